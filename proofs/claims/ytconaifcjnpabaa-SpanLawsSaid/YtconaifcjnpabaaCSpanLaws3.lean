/- Part of the proof of the law SpanLaws: the functions that it reaches, by contract. -/
import Derived.Test.YtconaifcjnpabaaCSpanLaws0
import Derived.Test.YtconaifcjnpabaaCSpanLaws1
import Derived.Test.YtconaifcjnpabaaCSpanLaws2
namespace Go.Proofs.Ytconaifcjnpabaa.P
open Go.RowKit Go.Proofs.YtconaifcjnpabaaW.PrintWords Go.Proofs.YtconaifcjnpabaaW.PrintLast Go.Proofs.YtconaifcjnpabaaW.PrintMore
attribute [local go_sem] max2_int min2_int max_two min_two max_three min_three max_four min_four
set_option linter.unusedVariables false
set_option linter.unusedSimpArgs false

/-! ### dragomanref01_with: function 35 -/
mutual
def q14z.j1 : Nat → List Int → Int → Int → Option (List Int)
 | 0, _, _, _ => none
 | k + 1, x0, x1, x5 => if x5 < (x0.length : Int) then (if 0 ≤ x5 then (q14z.j2 k x0 x1 x5 ((rd x0 x5) == x1)) else (none)) else (q14z.j2 k x0 x1 x5 false)
def q14z.j2 : Nat → List Int → Int → Int → Bool → Option (List Int)
 | 0, _, _, _, _ => none
 | k + 1, x0, x1, x5, x32 => if x32 = true then (some x0) else (if x0.length < 35184372088832 then ((some (x0 ++ [0] : List Int)).bind fun y198 => (q14z.l1 k y198 x1 x5 (wrap64 ((y198.length : Int) - 1)))) else (none))
def q14z.l1 : Nat → List Int → Int → Int → Int → Option (List Int)
 | 0, _, _, _, _ => none
 | k + 1, x0, x1, x5, x6 => if x6 > x5 then (if 0 ≤ (wrap64 (x6 - 1)) then (if (wrap64 (x6 - 1)) < (x0.length : Int) then (if 0 ≤ x6 then (if x6 < (x0.length : Int) then (q14z.l1 k (x0.set (x6 : Int).toNat (rd x0 (wrap64 (x6 - 1)))) x1 x5 (wrap64 (x6 - 1))) else (none)) else (none)) else (none)) else (none)) else (if 0 ≤ x5 then (if x5 < (x0.length : Int) then (some (x0.set (x5 : Int).toNat x1)) else (none)) else (none))
def q14z.l0 : Nat → List Int → Int → Int → Option (List Int)
 | 0, _, _, _ => none
 | k + 1, x0, x1, x5 => if x5 < (x0.length : Int) then (if 0 ≤ x5 then (if (rd x0 x5) < x1 then (q14z.l0 k x0 x1 (wrap64 (x5 + 1))) else (q14z.j1 k x0 x1 x5)) else (none)) else (q14z.j1 k x0 x1 x5)
end
def q14z.f (k : Nat) (l0 : List Int) (a1 : Int) : Option (List Int) := q14z.l0 k l0 a1 0
theorem q14z.mono_l : ∀ k, (∀ y0 y1 y2, LeO (q14z.j1 k y0 y1 y2) (q14z.j1 (k + 1) y0 y1 y2)) ∧ (∀ y0 y1 y2 y3, LeO (q14z.j2 k y0 y1 y2 y3) (q14z.j2 (k + 1) y0 y1 y2 y3)) ∧ (∀ y0 y1 y2 y3, LeO (q14z.l1 k y0 y1 y2 y3) (q14z.l1 (k + 1) y0 y1 y2 y3)) ∧ (∀ y0 y1 y2, LeO (q14z.l0 k y0 y1 y2) (q14z.l0 (k + 1) y0 y1 y2))
 | 0 => ⟨fun _ _ _ r h => by simp [q14z.j1] at h, fun _ _ _ _ r h => by simp [q14z.j2] at h, fun _ _ _ _ r h => by simp [q14z.l1] at h, fun _ _ _ r h => by simp [q14z.l0] at h⟩
 | k + 1 => by
  obtain ⟨ih0, ih1, ih2, ih3⟩ := q14z.mono_l k
  refine ⟨?_, ?_, ?_, ?_⟩
  ·
   intro y0 y1 y2
   unfold q14z.j1
   repeat' first
   | (with_reducible exact ih0 _ _ _)
   | (with_reducible exact ih1 _ _ _ _)
   | (with_reducible exact ih2 _ _ _ _)
   | (with_reducible exact ih3 _ _ _)
   | (with_reducible exact LeO.refl _)
   | (with_reducible exact LeO.none _)
   | (with_reducible refine LeO.ite ?_ ?_)
   | (with_reducible refine LeO.bind ?_ (fun _ => ?_))
   | exact ih0 _ _ _
   | exact ih1 _ _ _ _
   | exact ih2 _ _ _ _
   | exact ih3 _ _ _
   | exact LeO.none _
   | refine LeO.ite ?_ ?_
   | refine LeO.bind ?_ (fun _ => ?_)
  ·
   intro y0 y1 y2 y3
   unfold q14z.j2
   repeat' first
   | (with_reducible exact ih0 _ _ _)
   | (with_reducible exact ih1 _ _ _ _)
   | (with_reducible exact ih2 _ _ _ _)
   | (with_reducible exact ih3 _ _ _)
   | (with_reducible exact LeO.refl _)
   | (with_reducible exact LeO.none _)
   | (with_reducible refine LeO.ite ?_ ?_)
   | (with_reducible refine LeO.bind ?_ (fun _ => ?_))
   | exact ih0 _ _ _
   | exact ih1 _ _ _ _
   | exact ih2 _ _ _ _
   | exact ih3 _ _ _
   | exact LeO.none _
   | refine LeO.ite ?_ ?_
   | refine LeO.bind ?_ (fun _ => ?_)
  ·
   intro y0 y1 y2 y3
   unfold q14z.l1
   repeat' first
   | (with_reducible exact ih0 _ _ _)
   | (with_reducible exact ih1 _ _ _ _)
   | (with_reducible exact ih2 _ _ _ _)
   | (with_reducible exact ih3 _ _ _)
   | (with_reducible exact LeO.refl _)
   | (with_reducible exact LeO.none _)
   | (with_reducible refine LeO.ite ?_ ?_)
   | (with_reducible refine LeO.bind ?_ (fun _ => ?_))
   | exact ih0 _ _ _
   | exact ih1 _ _ _ _
   | exact ih2 _ _ _ _
   | exact ih3 _ _ _
   | exact LeO.none _
   | refine LeO.ite ?_ ?_
   | refine LeO.bind ?_ (fun _ => ?_)
  ·
   intro y0 y1 y2
   unfold q14z.l0
   repeat' first
   | (with_reducible exact ih0 _ _ _)
   | (with_reducible exact ih1 _ _ _ _)
   | (with_reducible exact ih2 _ _ _ _)
   | (with_reducible exact ih3 _ _ _)
   | (with_reducible exact LeO.refl _)
   | (with_reducible exact LeO.none _)
   | (with_reducible refine LeO.ite ?_ ?_)
   | (with_reducible refine LeO.bind ?_ (fun _ => ?_))
   | exact ih0 _ _ _
   | exact ih1 _ _ _ _
   | exact ih2 _ _ _ _
   | exact ih3 _ _ _
   | exact LeO.none _
   | refine LeO.ite ?_ ?_
   | refine LeO.bind ?_ (fun _ => ?_)
theorem q14z.mono : ∀ a0 a1 k, LeO (q14z.f k a0 a1) (q14z.f (k + 1) a0 a1) := by
 intro a0 a1 k
 obtain ⟨ih0, ih1, ih2, ih3⟩ := q14z.mono_l k
 unfold q14z.f
 repeat' first
   | (with_reducible exact ih0 _ _ _)
   | (with_reducible exact ih1 _ _ _ _)
   | (with_reducible exact ih2 _ _ _ _)
   | (with_reducible exact ih3 _ _ _)
   | (with_reducible exact LeO.refl _)
   | (with_reducible exact LeO.none _)
   | (with_reducible refine LeO.ite ?_ ?_)
   | (with_reducible refine LeO.bind ?_ (fun _ => ?_))
   | exact ih0 _ _ _
   | exact ih1 _ _ _ _
   | exact ih2 _ _ _ _
   | exact ih3 _ _ _
   | exact LeO.none _
   | refine LeO.ite ?_ ?_
   | refine LeO.bind ?_ (fun _ => ?_)
set_option maxHeartbeats 8000000 in
set_option maxRecDepth 100000 in
theorem q14z.calls (k : Nat) (P0_ : Nat → Prop) (u9000_ : Value) (l0 : List Int) (a1 : Int) (r : List Int) (w0 w : World) (hB : Below w0.heap.size w0 w) (ho0 : Kd.R (Kd.int .u32) 29 w w0.heap.size P0_ u9000_ l0) (h : q14z.f k l0 a1 = some r) :
  Calls Try.prog 35 #[u9000_, .int .u32 a1] w fun e w' => ∃ v0_ : Value, e = .returned (v0_) ∧ Kd.R (Kd.int .u32) 29 w' w0.heap.size (fun k_ => (P0_ k_ ∨ w.heap.size ≤ k_)) v0_ r ∧ Below w0.heap.size w0 w' ∧ Kept w w' (fun k_ => P0_ k_) := by
 have HO0 := Aside0.mk (show Kd.R (Kd.int .u32) 29 w w0.heap.size (fun k_ => (P0_ k_ ∨ w.heap.size ≤ k_)) u9000_ l0 from Kd.R_mono ho0 (fun k_ hk => (.inl hk)))
 have HK := Aside0.mk (Kept.refl w (fun k_ => P0_ k_))
 have HW0 := Aside0.mk hB.size
 have HB := Aside0.mk hB
 clear hB
 have H : (q14z.l0 k l0 a1 0) = some r := h
 clear h
 have HC3 := Aside0.mk H
 clear H
 go_enter Try.func35, Try.ntmps35
 go_upto_block 0 with (fail)
 go_cut [5] (fun v5 wc => ∃ (kq : Nat) (x5_2 : Int), v5 = .int .i64 x5_2 ∧ Aside0 (q14z.j1 kq l0 a1 x5_2 = some r) ∧ Aside0 (kq ≤ k) ∧ Aside0 (Kd.R (Kd.int .u32) 29 wc w0.heap.size (fun k_ => (P0_ k_ ∨ w.heap.size ≤ k_)) u9000_ l0) ∧ Aside0 (Kept w wc (fun k_ => P0_ k_)) ∧ Aside0 (Below w0.heap.size w0 wc))
 case first =>
  have H := HC3.out
  clear HC3
  have H' := Aside0.mk H
  clear H
  go_wp2
  go_loopg [5] k (fun kq v5 w' => ∃ (x5_1 : Int), v5 = .int .i64 x5_1 ∧ Aside0 (q14z.l0 kq l0 a1 x5_1 = some r) ∧ Aside0 (kq ≤ k) ∧ Aside0 (Kd.R (Kd.int .u32) 29 w' w0.heap.size (fun k_ => (P0_ k_ ∨ w.heap.size ≤ k_)) u9000_ l0) ∧ Aside0 (Kept w w' (fun k_ => P0_ k_)) ∧ Aside0 (Below w0.heap.size w0 w'))
  case atStart => exact ⟨(0), (by first | rfl | (simp; done) | (simp [*]; done)), H', ⟨Nat.le_refl _⟩, ⟨by (with_reducible repeat (first | apply Kd.R_alloc | apply Kd.R_drewN | apply Kd.R_drew)); exact HO0.out⟩, ⟨by repeat (first | (with_reducible first | exact HK.out | apply Kept.alloc | apply Kept.drewN | apply Kept.drew) | exact HK.out)⟩, ⟨by repeat (first | (with_reducible first | exact HB.out | apply below_alloc | apply pw_below_drewN | apply below_drew1) | exact HB.out)⟩⟩
  case round =>
   clear H'
   try clear p2
   try clear c3
   obtain ⟨x5_1, rfl, HA, HK1, HO_0, HK, HB⟩ := hrel
   cases gk with
   | zero => exact absurd HA.out (by simp [q14z.l0])
   | succ k1 =>
    have H := HA.out
    clear HA
    simp only [q14z.l0] at H
    by_cases c4 : x5_1 < (l0.length : Int)
    ·
     rw [if_pos c4] at H
     have c4b0 : decide (x5_1 < (l0.length : Int)) = true := decide_eq_true c4
     clear c4
     (first | rw [c4b0] | (simp only [i64_w, i32_w, IntKind.wrap_u32]; rw [c4b0]) | skip)
     by_cases c5 : 0 ≤ x5_1
     ·
      rw [if_pos c5] at H
      have c5b0 : decide (0 ≤ x5_1) = true := decide_eq_true c5
      clear c5
      by_cases c6 : (rd l0 x5_1) < a1
      ·
       rw [if_pos c6] at H
       have c6b0 : decide ((rd l0 x5_1) < a1) = true := decide_eq_true c6
       clear c6
       have H' := Aside0.mk H
       clear H
       obtain ⟨Ao7, co7, eo7⟩ := Kd.R_slice HO_0.out
       subst eo7
       have p196 : 0 ≤ (x5_1 : Int) := of_decide_eq_true (by first | (with_reducible assumption) | assumption)
       have q196 : x5_1 < (l0.length : Int) := of_decide_eq_true (by first | (with_reducible assumption) | assumption)
       obtain ⟨ad196, e196, hx196_0⟩ := Kd.at_int (Kd.R_reads' HO_0.out).2.2 x5_1 p196 q196
       cases e196
       replace p196 := eq_true p196
       replace q196 := eq_true q196
       go_wp2
       go_roundg k1
       case measure => have := HK1.out; omega
       case rel => exact ⟨(wrap64 (x5_1 + 1)), (by first | rfl | (simp; done) | (simp [*]; done)), H', ⟨by have := HK1.out; omega⟩, ⟨by (with_reducible repeat (first | apply Kd.R_alloc | apply Kd.R_drewN | apply Kd.R_drew)); exact HO_0.out⟩, ⟨by repeat (first | (with_reducible first | exact HK.out | apply Kept.alloc | apply Kept.drewN | apply Kept.drew) | exact HK.out)⟩, ⟨by repeat (first | (with_reducible first | exact HB.out | apply below_alloc | apply pw_below_drewN | apply below_drew1) | exact HB.out)⟩⟩
      ·
       rw [if_neg c6] at H
       have c6b0 : decide ((rd l0 x5_1) < a1) = false := decide_eq_false c6
       clear c6
       have H' := Aside0.mk H
       clear H
       obtain ⟨Ao8, co8, eo8⟩ := Kd.R_slice HO_0.out
       subst eo8
       have p196 : 0 ≤ (x5_1 : Int) := of_decide_eq_true (by first | (with_reducible assumption) | assumption)
       have q196 : x5_1 < (l0.length : Int) := of_decide_eq_true (by first | (with_reducible assumption) | assumption)
       obtain ⟨ad196, e196, hx196_0⟩ := Kd.at_int (Kd.R_reads' HO_0.out).2.2 x5_1 p196 q196
       cases e196
       replace p196 := eq_true p196
       replace q196 := eq_true q196
       go_wp2
       go_meet
       case rel => exact ⟨_, (x5_1), (by first | rfl | (simp; done) | (simp [*]; done)), H', ⟨by have := HK1.out; first | omega | exact Nat.le_refl _⟩, ⟨by (with_reducible repeat (first | apply Kd.R_alloc | apply Kd.R_drewN | apply Kd.R_drew)); exact HO_0.out⟩, ⟨by repeat (first | (with_reducible first | exact HK.out | apply Kept.alloc | apply Kept.drewN | apply Kept.drew) | exact HK.out)⟩, ⟨by repeat (first | (with_reducible first | exact HB.out | apply below_alloc | apply pw_below_drewN | apply below_drew1) | exact HB.out)⟩⟩
     ·
      rw [if_neg c5] at H
      exact absurd H (by simp)
    ·
     rw [if_neg c4] at H
     have c4b0 : decide (x5_1 < (l0.length : Int)) = false := decide_eq_false c4
     clear c4
     (first | rw [c4b0] | (simp only [i64_w, i32_w, IntKind.wrap_u32]; rw [c4b0]) | skip)
     have H' := Aside0.mk H
     clear H
     obtain ⟨Ao9, co9, eo9⟩ := Kd.R_slice HO_0.out
     subst eo9
     go_wp2
     go_meet
     case rel => exact ⟨_, (x5_1), (by first | rfl | (simp; done) | (simp [*]; done)), H', ⟨by have := HK1.out; first | omega | exact Nat.le_refl _⟩, ⟨by (with_reducible repeat (first | apply Kd.R_alloc | apply Kd.R_drewN | apply Kd.R_drew)); exact HO_0.out⟩, ⟨by repeat (first | (with_reducible first | exact HK.out | apply Kept.alloc | apply Kept.drewN | apply Kept.drew) | exact HK.out)⟩, ⟨by repeat (first | (with_reducible first | exact HB.out | apply below_alloc | apply pw_below_drewN | apply below_drew1) | exact HB.out)⟩⟩
 case rest =>
  clear HC3
  try clear p1
  try clear q1
  try clear hx1
  try clear p2
  try clear c3
  try clear c4
  try clear c4b0
  try clear c5
  try clear c5b0
  try clear c6
  try clear c6b0
  try clear p6
  try clear hx196_0
  try clear p196
  try clear p2
  try clear q196
  obtain ⟨kq, x5_2, rfl, HA, HJ2, HO_0, HK, HB⟩ := hcut
  cases kq with
  | zero => exact absurd HA.out (by simp [q14z.j1])
  | succ kj2 =>
   have H := HA.out
   clear HA
   simp only [q14z.j1] at H
   have HC10 := Aside0.mk H
   clear H
   go_upto_region 4 with (fail)
   go_cut [32] (fun v32 wc => ∃ (kq : Nat) (x32_9 : Bool), v32 = .bool x32_9 ∧ Aside0 (q14z.j2 kq l0 a1 x5_2 x32_9 = some r) ∧ Aside0 (kq ≤ kj2) ∧ Aside0 (Kd.R (Kd.int .u32) 29 wc w0.heap.size (fun k_ => (P0_ k_ ∨ w.heap.size ≤ k_)) u9000_ l0) ∧ Aside0 (Kept w wc (fun k_ => P0_ k_)) ∧ Aside0 (Below w0.heap.size w0 wc))
   case first =>
    have H := HC10.out
    clear HC10
    by_cases c11 : x5_2 < (l0.length : Int)
    ·
     rw [if_pos c11] at H
     have c11b0 : decide (x5_2 < (l0.length : Int)) = true := decide_eq_true c11
     clear c11
     (first | rw [c11b0] | (simp only [i64_w, i32_w, IntKind.wrap_u32]; rw [c11b0]) | skip)
     by_cases c12 : 0 ≤ x5_2
     ·
      rw [if_pos c12] at H
      have c12b0 : decide (0 ≤ x5_2) = true := decide_eq_true c12
      clear c12
      have H' := Aside0.mk H
      clear H
      obtain ⟨Ao13, co13, eo13⟩ := Kd.R_slice HO_0.out
      subst eo13
      have p197 : 0 ≤ (x5_2 : Int) := of_decide_eq_true (by first | (with_reducible assumption) | assumption)
      have q197 : x5_2 < (l0.length : Int) := of_decide_eq_true (by first | (with_reducible assumption) | assumption)
      obtain ⟨ad197, e197, hx197_0⟩ := Kd.at_int (Kd.R_reads' HO_0.out).2.2 x5_2 p197 q197
      cases e197
      replace p197 := eq_true p197
      replace q197 := eq_true q197
      go_wp2
      go_meet
      case rel => exact ⟨_, (((rd l0 x5_2) == a1)), (by first | rfl | (simp; done) | (simp [*]; done)), H', ⟨by have := HJ2.out; first | omega | exact Nat.le_refl _⟩, ⟨by (with_reducible repeat (first | apply Kd.R_alloc | apply Kd.R_drewN | apply Kd.R_drew)); exact HO_0.out⟩, ⟨by repeat (first | (with_reducible first | exact HK.out | apply Kept.alloc | apply Kept.drewN | apply Kept.drew) | exact HK.out)⟩, ⟨by repeat (first | (with_reducible first | exact HB.out | apply below_alloc | apply pw_below_drewN | apply below_drew1) | exact HB.out)⟩⟩
     ·
      rw [if_neg c12] at H
      exact absurd H (by simp)
    ·
     rw [if_neg c11] at H
     have c11b0 : decide (x5_2 < (l0.length : Int)) = false := decide_eq_false c11
     clear c11
     (first | rw [c11b0] | (simp only [i64_w, i32_w, IntKind.wrap_u32]; rw [c11b0]) | skip)
     have H' := Aside0.mk H
     clear H
     obtain ⟨Ao14, co14, eo14⟩ := Kd.R_slice HO_0.out
     subst eo14
     go_wp2
     go_meet
     case rel => exact ⟨_, (false), (by first | rfl | (simp; done) | (simp [*]; done)), H', ⟨by have := HJ2.out; first | omega | exact Nat.le_refl _⟩, ⟨by (with_reducible repeat (first | apply Kd.R_alloc | apply Kd.R_drewN | apply Kd.R_drew)); exact HO_0.out⟩, ⟨by repeat (first | (with_reducible first | exact HK.out | apply Kept.alloc | apply Kept.drewN | apply Kept.drew) | exact HK.out)⟩, ⟨by repeat (first | (with_reducible first | exact HB.out | apply below_alloc | apply pw_below_drewN | apply below_drew1) | exact HB.out)⟩⟩
   case rest =>
    clear HC10
    try clear c1
    try clear p1
    try clear q1
    try clear hx1
    try clear p2
    try clear c3
    try clear c4
    try clear c4b0
    try clear c5
    try clear c5b0
    try clear c6
    try clear c6b0
    try clear p6
    try clear c11
    try clear c11b0
    try clear c12
    try clear c12b0
    try clear hx196_0
    try clear hx197_0
    try clear p1
    try clear p196
    try clear p197
    try clear p2
    try clear p6
    try clear q1
    try clear q196
    try clear q197
    obtain ⟨kq, x32_9, rfl, HA, HJ9, HO_0, HK, HB⟩ := hcut
    cases kq with
    | zero => exact absurd HA.out (by simp [q14z.j2])
    | succ kj9 =>
     have H := HA.out
     clear HA
     simp only [q14z.j2] at H
     by_cases c15 : x32_9 = true
     ·
      subst c15
      have H1 : (some l0) = some r := by rw [if_pos rfl] at H; exact H
      clear H
      have H := H1
      clear H1
      obtain rfl := Option.some.inj H
      go_wp2
      go_ret
      exact ⟨_, by first | rfl | (simp [errW_none, errW_some] <;> rfl) | (simp [*, errW_none, errW_some] <;> rfl), by (with_reducible repeat (first | apply Kd.R_alloc | apply Kd.R_drewN | apply Kd.R_drew)); exact HO_0.out, by repeat (first | (with_reducible first | exact HB.out | apply below_alloc | apply pw_below_drewN | apply below_drew1) | exact HB.out), by repeat (first | (with_reducible first | exact HK.out | apply Kept.alloc | apply Kept.drewN | apply Kept.drew) | exact HK.out)⟩
     ·
      replace c15 := Bool.eq_false_iff.mpr c15
      subst c15
      have H1 : (if l0.length < 35184372088832 then ((some (l0 ++ [0] : List Int)).bind fun y198 => (q14z.l1 kj9 y198 a1 x5_2 (wrap64 ((y198.length : Int) - 1)))) else (none)) = some r := by rw [if_neg (show ¬ (false = true) by decide)] at H; exact H
      clear H
      have H := H1
      clear H1
      by_cases c16 : l0.length < 35184372088832
      ·
       rw [if_pos c16] at H
       have LMc16 := Aside0.mk c16
       clear c16
       obtain ⟨y198, hy198⟩ : ∃ y_ : List Int, y_ = (l0 ++ [0]) := ⟨_, rfl⟩
       replace H : (q14z.l1 kj9 y198 a1 x5_2 (wrap64 ((y198.length : Int) - 1))) = some r := by first | (rw [hy198]; with_reducible exact H) | (have H2_ := (Option.bind_some _ _).symm.trans H; rw [hy198]; with_reducible exact H2_) | (have H2_ := (Option.bind_some _ _).symm.trans H; with_reducible exact H2_) | with_reducible exact H | (rw [hy198]; exact H) | exact H
       have Ny198 := Aside0.mk hy198
       clear hy198
       have H' := Aside0.mk H
       clear H
       go_wp2_with (first | ((with_reducible refine gate_builtin (b := .append) (xs := #[.tmp 34, .tmp 35]) rfl ?_); at_builtin; refine Kd.R_append (Kd.int .u32) (w0 := w0) w0.heap.size rfl (.tmp 34) (.tmp 35) 37 29 (.int .u32 0) 4 rfl Try.underlying37 info29 rfl (by decide) (by omega) u9000_ l0 0 [.int .u32 0] (fun k_ => (P0_ k_ ∨ w.heap.size ≤ k_)) (fun _ => False) rfl rfl ?aP (fun _ hk => hk.elim) ?aF ?aO ?aB ?aS ?aL ?_; (case aP => exact rfl); (case aB => exact (by repeat (first | (with_reducible first | exact HB.out | apply below_alloc | apply pw_below_drewN | apply below_drew1) | exact HB.out))); (case aF => exact (fun k_ hk => (.inr (Nat.le_trans (by first | exact HK.out.1 | exact (show Kept w _ (fun k_ => P0_ k_) from by repeat (first | (with_reducible first | exact HK.out | apply Kept.alloc | apply Kept.drewN | apply Kept.drew) | exact HK.out)).1) hk)))); (case aO => exact (by (with_reducible repeat (first | apply Kd.R_alloc | apply Kd.R_drewN | apply Kd.R_drew)); exact HO_0.out)); (case aS => exact (below_size (by repeat (first | (with_reducible first | exact HB.out | apply below_alloc | apply pw_below_drewN | apply below_drew1) | exact HB.out)))); (case aL => have := LMc16.out; omega); intro v199 w17 ho hb hg hat; rw [← Ny198.out] at ho; have n0_ := Aside0.mk (hb); have n1_ := Aside0.mk (Kept.of_grown (S := (fun k_ => P0_ k_)) hg (by repeat (first | (with_reducible first | exact HK.out | apply Kept.alloc | apply Kept.drewN | apply Kept.drew) | exact HK.out)) (fun k_ e_ => (HO_0.out.1 k_ e_))); have n2_ := Aside0.mk (ho); clear HB; clear HK; clear HO_0; have HB := n0_; have HK := n1_; have HO200 := n2_; clear n0_ n1_ n2_; clear ho hb hg hat; obtain ⟨Ao18, co18, eo18⟩ := Kd.R_slice HO200.out; subst eo18))
       go_loopg [6] kj9 (fun kq v6 w' => ∃ (x0_3 : List Int) (x6_3 : Int), v6 = .int .i64 x6_3 ∧ Aside0 (q14z.l1 kq x0_3 a1 x5_2 x6_3 = some r) ∧ Aside0 (kq ≤ kj9) ∧ Aside0 (Kd.R (Kd.int .u32) 29 w' w0.heap.size (fun k_ => (P0_ k_ ∨ w.heap.size ≤ k_)) (.slice Ao18 y198.length co18) x0_3) ∧ Aside0 (Kept w w' (fun k_ => P0_ k_)) ∧ Aside0 (Below w0.heap.size w0 w'))
       case atStart => exact ⟨(y198), (wrap64 ((y198.length : Int) - 1)), (by first | rfl | (simp; done) | (simp [*]; done)), H', ⟨Nat.le_refl _⟩, ⟨by (with_reducible repeat (first | apply Kd.R_alloc | apply Kd.R_drewN | apply Kd.R_drew)); exact HO200.out⟩, ⟨by repeat (first | (with_reducible first | exact HK.out | apply Kept.alloc | apply Kept.drewN | apply Kept.drew) | exact HK.out)⟩, ⟨by repeat (first | (with_reducible first | exact HB.out | apply below_alloc | apply pw_below_drewN | apply below_drew1) | exact HB.out)⟩⟩
       case round =>
        clear H'
        try clear c1
        try clear p1
        try clear q1
        try clear hx1
        try clear p2
        try clear c3
        try clear c4
        try clear c4b0
        try clear c5
        try clear c5b0
        try clear c6
        try clear c6b0
        try clear p6
        try clear c11
        try clear c11b0
        try clear c12
        try clear c12b0
        try clear c15
        try clear c16
        try clear hx196_0
        try clear hx197_0
        try clear p1
        try clear p196
        try clear p197
        try clear p2
        try clear p6
        try clear q1
        try clear q196
        try clear q197
        obtain ⟨x0_3, x6_3, rfl, HA, HK3, HO_0, HK, HB⟩ := hrel
        have hl0_3 := (Kd.R_reads' HO_0.out).1
        rw [hl0_3] at HO_0
        (try simp only [hl0_3])
        cases gk with
        | zero => exact absurd HA.out (by simp [q14z.l1])
        | succ k3 =>
         have H := HA.out
         clear HA
         simp only [q14z.l1] at H
         by_cases c19 : x6_3 > x5_2
         ·
          rw [if_pos c19] at H
          have c19b0 : decide (x5_2 < x6_3) = true := decide_eq_true c19
          clear c19
          obtain ⟨ji20, hji20⟩ : ∃ j_ : Int, (wrap64 (x6_3 - 1)) = j_ := ⟨_, rfl⟩
          replace H : (if 0 ≤ (ji20) then (if (ji20) < (x0_3.length : Int) then (if 0 ≤ x6_3 then (if x6_3 < (x0_3.length : Int) then (q14z.l1 k3 (x0_3.set (x6_3 : Int).toNat (rd x0_3 (ji20))) a1 x5_2 ji20) else (none)) else (none)) else (none)) else (none)) = some r := by first | (rw [hji20] at H; exact H) | (simp only [hji20] at H ⊢; exact H)
          have hji20w : (IntKind.i64.wrap (x6_3 - 1)) = ji20 := (i64_w _).trans hji20
          by_cases c21 : 0 ≤ (ji20)
          ·
           rw [if_pos c21] at H
           have c21b0 : decide (0 ≤ (ji20)) = true := decide_eq_true c21
           clear c21
           by_cases c22 : (ji20) < (x0_3.length : Int)
           ·
            rw [if_pos c22] at H
            have c22b0 : decide ((ji20) < (x0_3.length : Int)) = true := decide_eq_true c22
            clear c22
            by_cases c23 : 0 ≤ x6_3
            ·
             rw [if_pos c23] at H
             have c23b0 : decide (0 ≤ x6_3) = true := decide_eq_true c23
             clear c23
             by_cases c24 : x6_3 < (x0_3.length : Int)
             ·
              rw [if_pos c24] at H
              have c24b0 : decide (x6_3 < (x0_3.length : Int)) = true := decide_eq_true c24
              clear c24
              obtain ⟨y202, hy202⟩ : ∃ y_ : List Int, y_ = (x0_3.set (x6_3 : Int).toNat (rd x0_3 (ji20))) := ⟨_, rfl⟩
              replace H : (q14z.l1 k3 y202 a1 x5_2 ji20) = some r := by first | (rw [hy202]; with_reducible exact H) | (have H2_ := (Option.bind_some _ _).symm.trans H; rw [hy202]; with_reducible exact H2_) | (have H2_ := (Option.bind_some _ _).symm.trans H; with_reducible exact H2_) | with_reducible exact H | (rw [hy202]; exact H) | exact H
              have Ny202 := Aside0.mk hy202
              clear hy202
              have H' := Aside0.mk H
              clear H
              have p201 : 0 ≤ ((ji20) : Int) := of_decide_eq_true (by first | (with_reducible assumption) | assumption)
              have q201 : (ji20) < (x0_3.length : Int) := of_decide_eq_true (by first | (with_reducible assumption) | assumption)
              obtain ⟨ad201, e201, hx201_0⟩ := Kd.at_int (Kd.R_reads' HO_0.out).2.2 (ji20) p201 q201
              cases e201
              replace p201 := eq_true p201
              replace q201 := eq_true q201
              have p25 : 0 ≤ (x6_3 : Int) := of_decide_eq_true (by first | (with_reducible assumption) | assumption)
              have q25 : (x6_3 : Int) < ((x0_3.length : Int) : Int) := of_decide_eq_true (by first | (with_reducible assumption) | assumption)
              obtain ⟨go25, co25, eo25, gb25, gl25, cl25, HG25⟩ := Kd.R_form HO_0.out (by omega)
              (first | cases eo25 | (injection eo25 with ea_ en_ ec_; (first | subst ea_ | (injection ea_ with ea_; subst ea_)); subst ec_; clear en_))
              have GB25 := Aside0.mk gb25
              have GG25 := Aside0.mk HG25
              clear gb25 gl25 HG25
              have HMgo25 := Aside0.mk (show (P0_ go25 ∨ w.heap.size ≤ go25) from (HO_0.out.1 _ rfl))
              (first | simp only [add_plain] at hx201_0 | skip)
              obtain ⟨hx25_0, hf25_0⟩ := Kd.R_celln 0 HO_0.out (x6_3 : Int) p25 q25
              replace p25 := eq_true p25
              replace q25 := eq_true q25
              have HP26 := Kd.R_putg HO_0.out (x6_3 : Int) (rd x0_3 (ji20))
              go_wp2_with (first | ((with_reducible refine gate_store (t := 29) (p := 52) rfl ?_); refine store_event (t := 29) (p := 52) (v := ?vo_w27) (w1 := (wr.setCell ⟨go25, (x6_3 : Int).toNat, none⟩ (.int .u32 (rd x0_3 (ji20))))) ?hg ?ho ?hn ?hr ?_; (case ho => rfl); (case hg => rfl); (case hn => rfl); (case hr => first | (go_simp; done) | (go_simp; rfl)); intro w27 hw; have hg : wr.grownBy w27 (some go25) := (by rw [hw]; exact HP26.2); have hp_ : Kd.R (Kd.int .u32) 29 w27 w0.heap.size (fun k_ => (P0_ k_ ∨ w.heap.size ≤ k_)) (.slice (some ⟨go25, 0, none⟩) x0_3.length co18) y202 := (by rw [hw, Ny202.out]; exact HP26.1); clear HP26; have n0_ := Aside0.mk (hp_); have n1_ := Aside0.mk ((by rw [hw]; exact below_set (HB.out) GB25.out : Below w0.heap.size w0 w27)); have n2_ := Aside0.mk (Kept.of_grown (S := (fun k_ => P0_ k_)) hg (by repeat (first | (with_reducible first | exact HK.out | apply Kept.alloc | apply Kept.drewN | apply Kept.drew) | exact HK.out)) (fun k_ e_ => (HO_0.out.1 k_ e_))); clear HO_0; clear HB; clear HK; have HO_0 := n0_; have HB := n1_; have HK := n2_; clear n0_ n1_ n2_; clear hg hw hp_))
              (try simp only [← hl0_3])
              go_roundg k3
              case measure => have := HJ2.out; have := HJ9.out; have := HK3.out; omega
              case rel => exact ⟨(y202), (ji20), (by first | rfl | (simp; done) | (simp only [← hji20] <;> (first | rfl | simp)) | (simp [*]; done)), H', ⟨by have := HJ2.out; have := HJ9.out; have := HK3.out; omega⟩, ⟨by (try simp only [hl0_3]); (with_reducible repeat (first | apply Kd.R_alloc | apply Kd.R_drewN | apply Kd.R_drew)); exact HO_0.out⟩, ⟨by repeat (first | (with_reducible first | exact HK.out | apply Kept.alloc | apply Kept.drewN | apply Kept.drew) | exact HK.out)⟩, ⟨by repeat (first | (with_reducible first | exact HB.out | apply below_alloc | apply pw_below_drewN | apply below_drew1) | exact HB.out)⟩⟩
             ·
              rw [if_neg c24] at H
              exact absurd H (by simp)
            ·
             rw [if_neg c23] at H
             exact absurd H (by simp)
           ·
            rw [if_neg c22] at H
            exact absurd H (by simp)
          ·
           rw [if_neg c21] at H
           exact absurd H (by simp)
         ·
          rw [if_neg c19] at H
          have c19b0 : decide (x5_2 < x6_3) = false := decide_eq_false c19
          clear c19
          by_cases c28 : 0 ≤ x5_2
          ·
           rw [if_pos c28] at H
           have c28b0 : decide (0 ≤ x5_2) = true := decide_eq_true c28
           clear c28
           by_cases c29 : x5_2 < (x0_3.length : Int)
           ·
            rw [if_pos c29] at H
            have c29b0 : decide (x5_2 < (x0_3.length : Int)) = true := decide_eq_true c29
            clear c29
            obtain ⟨y203, hy203⟩ : ∃ y_ : List Int, y_ = (x0_3.set (x5_2 : Int).toNat a1) := ⟨_, rfl⟩
            replace H : (some y203) = some r := by first | (rw [hy203]; with_reducible exact H) | (have H2_ := (Option.bind_some _ _).symm.trans H; rw [hy203]; with_reducible exact H2_) | (have H2_ := (Option.bind_some _ _).symm.trans H; with_reducible exact H2_) | with_reducible exact H | (rw [hy203]; exact H) | exact H
            have Ny203 := Aside0.mk hy203
            clear hy203
            obtain rfl := Option.some.inj H
            have p30 : 0 ≤ (x5_2 : Int) := of_decide_eq_true (by first | (with_reducible assumption) | assumption)
            have q30 : (x5_2 : Int) < ((x0_3.length : Int) : Int) := of_decide_eq_true (by first | (with_reducible assumption) | assumption)
            obtain ⟨go30, co30, eo30, gb30, gl30, cl30, HG30⟩ := Kd.R_form HO_0.out (by omega)
            (first | cases eo30 | (injection eo30 with ea_ en_ ec_; (first | subst ea_ | (injection ea_ with ea_; subst ea_)); subst ec_; clear en_))
            have GB30 := Aside0.mk gb30
            have GG30 := Aside0.mk HG30
            clear gb30 gl30 HG30
            have HMgo30 := Aside0.mk (show (P0_ go30 ∨ w.heap.size ≤ go30) from (HO_0.out.1 _ rfl))
            obtain ⟨hx30_0, hf30_0⟩ := Kd.R_celln 0 HO_0.out (x5_2 : Int) p30 q30
            replace p30 := eq_true p30
            replace q30 := eq_true q30
            have HP31 := Kd.R_putg HO_0.out (x5_2 : Int) a1
            go_wp2_with (first | ((with_reducible refine gate_store (t := 29) (p := 56) rfl ?_); refine store_event (t := 29) (p := 56) (v := ?vo_w32) (w1 := (wr.setCell ⟨go30, (x5_2 : Int).toNat, none⟩ (.int .u32 a1))) ?hg ?ho ?hn ?hr ?_; (case ho => rfl); (case hg => rfl); (case hn => rfl); (case hr => first | (go_simp; done) | (go_simp; rfl)); intro w32 hw; have hg : wr.grownBy w32 (some go30) := (by rw [hw]; exact HP31.2); have hp_ : Kd.R (Kd.int .u32) 29 w32 w0.heap.size (fun k_ => (P0_ k_ ∨ w.heap.size ≤ k_)) (.slice (some ⟨go30, 0, none⟩) x0_3.length co18) y203 := (by rw [hw, Ny203.out]; exact HP31.1); clear HP31; have n0_ := Aside0.mk (hp_); have n1_ := Aside0.mk ((by rw [hw]; exact below_set (HB.out) GB30.out : Below w0.heap.size w0 w32)); have n2_ := Aside0.mk (Kept.of_grown (S := (fun k_ => P0_ k_)) hg (by repeat (first | (with_reducible first | exact HK.out | apply Kept.alloc | apply Kept.drewN | apply Kept.drew) | exact HK.out)) (fun k_ e_ => (HO_0.out.1 k_ e_))); clear HO_0; clear HB; clear HK; have HO_0 := n0_; have HB := n1_; have HK := n2_; clear n0_ n1_ n2_; clear hg hw hp_))
            go_ret
            exact ⟨_, by first | rfl | (simp [errW_none, errW_some] <;> rfl) | (simp [*, errW_none, errW_some] <;> rfl), by (with_reducible repeat (first | apply Kd.R_alloc | apply Kd.R_drewN | apply Kd.R_drew)); exact HO_0.out, by repeat (first | (with_reducible first | exact HB.out | apply below_alloc | apply pw_below_drewN | apply below_drew1) | exact HB.out), by repeat (first | (with_reducible first | exact HK.out | apply Kept.alloc | apply Kept.drewN | apply Kept.drew) | exact HK.out)⟩
           ·
            rw [if_neg c29] at H
            exact absurd H (by simp)
          ·
           rw [if_neg c28] at H
           exact absurd H (by simp)
      ·
       rw [if_neg c16] at H
       exact absurd H (by simp)

end Go.Proofs.Ytconaifcjnpabaa.P

namespace Go.Proofs.Ytconaifcjnpabaa.P
open Go.RowKit Go.Proofs.YtconaifcjnpabaaW.PrintWords Go.Proofs.YtconaifcjnpabaaW.PrintLast Go.Proofs.YtconaifcjnpabaaW.PrintMore
attribute [local go_sem] max2_int min2_int max_two min_two max_three min_three max_four min_four
set_option linter.unusedVariables false
set_option linter.unusedSimpArgs false

/-! ### dragomanref01_begins: function 24 -/
mutual
def q15z.l0 : Nat → List Int → List (List (S33)) → Int → Int → Option (List Int)
 | 0, _, _, _, _ => none
 | k + 1, x3, x9, x10, x11 => if x11 < x10 then (if 0 ≤ x11 then (if x11 < (x9.length : Int) then (q15z.l1 k x3 x9 x10 x11 (rd_L2 x9 x11) ((rd_L2 x9 x11).length : Int) 0) else (none)) else (none)) else (some x3)
def q15z.l1 : Nat → List Int → List (List (S33)) → Int → Int → List (S33) → Int → Int → Option (List Int)
 | 0, _, _, _, _, _, _, _ => none
 | k + 1, x3, x9, x10, x11, x15, x16, x17 => if x17 < x16 then (if 0 ≤ x17 then (if x17 < (x15.length : Int) then (if ((rd_T33 x15 x17).f0) > ((rd_T33 x15 x17).f1) then (q15z.l1 k x3 x9 x10 x11 x15 x16 (wrap64 (x17 + 1))) else ((q14z.f k x3 ((rd_T33 x15 x17).f0)).bind fun t210 => (if ((rd_T33 x15 x17).f1) < 4294967295 then ((q14z.f k t210 ((((rd_T33 x15 x17).f1) + 1) % 4294967296)).bind fun t213 => (q15z.l1 k t213 x9 x10 x11 x15 x16 (wrap64 (x17 + 1)))) else (q15z.l1 k t210 x9 x10 x11 x15 x16 (wrap64 (x17 + 1)))))) else (none)) else (none)) else (q15z.l0 k x3 x9 x10 (wrap64 (x11 + 1)))
end
def q15z.f (k : Nat) (l0 : List (List (S33))) : Option (List Int) := q15z.l0 k (([0] : List Int)) l0 (l0.length : Int) 0
theorem q15z.mono_l : ∀ k, (∀ y0 y1 y2 y3, LeO (q15z.l0 k y0 y1 y2 y3) (q15z.l0 (k + 1) y0 y1 y2 y3)) ∧ (∀ y0 y1 y2 y3 y4 y5 y6, LeO (q15z.l1 k y0 y1 y2 y3 y4 y5 y6) (q15z.l1 (k + 1) y0 y1 y2 y3 y4 y5 y6))
 | 0 => ⟨fun _ _ _ _ r h => by simp [q15z.l0] at h, fun _ _ _ _ _ _ _ r h => by simp [q15z.l1] at h⟩
 | k + 1 => by
  obtain ⟨ih0, ih1⟩ := q15z.mono_l k
  refine ⟨?_, ?_⟩
  ·
   intro y0 y1 y2 y3
   unfold q15z.l0
   repeat' first
   | (with_reducible exact ih0 _ _ _ _)
   | (with_reducible exact ih1 _ _ _ _ _ _ _)
   | (with_reducible exact q14z.mono _ _ _)
   | (with_reducible exact LeO.refl _)
   | (with_reducible exact LeO.none _)
   | (with_reducible refine LeO.ite ?_ ?_)
   | (with_reducible refine LeO.bind ?_ (fun _ => ?_))
   | exact ih0 _ _ _ _
   | exact ih1 _ _ _ _ _ _ _
   | exact q14z.mono _ _ _
   | exact LeO.none _
   | refine LeO.ite ?_ ?_
   | refine LeO.bind ?_ (fun _ => ?_)
  ·
   intro y0 y1 y2 y3 y4 y5 y6
   unfold q15z.l1
   repeat' first
   | (with_reducible exact ih0 _ _ _ _)
   | (with_reducible exact ih1 _ _ _ _ _ _ _)
   | (with_reducible exact q14z.mono _ _ _)
   | (with_reducible exact LeO.refl _)
   | (with_reducible exact LeO.none _)
   | (with_reducible refine LeO.ite ?_ ?_)
   | (with_reducible refine LeO.bind ?_ (fun _ => ?_))
   | exact ih0 _ _ _ _
   | exact ih1 _ _ _ _ _ _ _
   | exact q14z.mono _ _ _
   | exact LeO.none _
   | refine LeO.ite ?_ ?_
   | refine LeO.bind ?_ (fun _ => ?_)
theorem q15z.mono : ∀ a0 k, LeO (q15z.f k a0) (q15z.f (k + 1) a0) := by
 intro a0 k
 obtain ⟨ih0, ih1⟩ := q15z.mono_l k
 unfold q15z.f
 repeat' first
   | (with_reducible exact ih0 _ _ _ _)
   | (with_reducible exact ih1 _ _ _ _ _ _ _)
   | (with_reducible exact q14z.mono _ _ _)
   | (with_reducible exact LeO.refl _)
   | (with_reducible exact LeO.none _)
   | (with_reducible refine LeO.ite ?_ ?_)
   | (with_reducible refine LeO.bind ?_ (fun _ => ?_))
   | exact ih0 _ _ _ _
   | exact ih1 _ _ _ _ _ _ _
   | exact q14z.mono _ _ _
   | exact LeO.none _
   | refine LeO.ite ?_ ?_
   | refine LeO.bind ?_ (fun _ => ?_)
set_option maxHeartbeats 8000000 in
set_option maxRecDepth 100000 in
theorem q15z.calls (k : Nat) (A0 : Option Addr) (c0 : Nat) (l0 : List (List (S33))) (r : List Int) (w : World) (hr0 : Kd.C (Kd.slice 33 k33) w A0 l0.length l0) (hc0 : l0.length ≤ c0) (h : q15z.f k l0 = some r) :
  Calls Try.prog 24 #[.slice A0 l0.length c0] w fun e w' => ∃ v0_ : Value, e = .returned (v0_) ∧ Kd.R (Kd.int .u32) 29 w' w.heap.size (fun _ => True) v0_ r ∧ Below w.heap.size w w' := by
 have hu33 := Try.underlying33
 have HR0 := Aside0.mk hr0
 have HC0 := Aside0.mk hc0
 clear hr0 hc0
 have HB := Aside0.mk (Below.refl w.heap.size w)
 have H : (q15z.l0 k (([0] : List Int)) l0 (l0.length : Int) 0) = some r := h
 clear h
 obtain ⟨y204, hy204⟩ : ∃ y_ : List Int, y_ = (([0] : List Int)) := ⟨_, rfl⟩
 replace H : (q15z.l0 k y204 l0 (l0.length : Int) 0) = some r := by first | (rw [hy204]; with_reducible exact H) | (have H2_ := (Option.bind_some _ _).symm.trans H; rw [hy204]; with_reducible exact H2_) | (have H2_ := (Option.bind_some _ _).symm.trans H; with_reducible exact H2_) | with_reducible exact H | (rw [hy204]; exact H) | exact H
 have Ny204 := Aside0.mk hy204
 clear hy204
 have H' := Aside0.mk H
 clear H
 go_enter Try.func24, Try.ntmps24
 go_wp2_with (first | ((with_reducible refine gate_dst (N := 8) rfl ?_); refine Kd.R_lit (Kd.int .u32) _ 29 ?hg (N := 8) ?hd (xs := ([0] : List Int)) (inner := [.int .u32 0]) (ok := fun _ => True) (okp := fun _ => True) ?hr ?hp (fun _ hk => hk) trivial (Below.refl _ _) (Nat.le_refl _) (by simp) ?_; (case hd => rfl); (case hg => rfl); (case hr => first | (go_simp; done) | (go_simp; rfl)); (case hp => exact (Reps.one (show Kd.M (Kd.int .u32) _ _ _ 0 [.int .u32 0] from rfl) (Reps.none _ _))); intro v205 w2 ho3 hb hg_ hnew_; clear hg_ hnew_; (first | rw [← Ny204.out] at ho3 | (simp only [Int.reduceToNat] at ho3; rw [← Ny204.out] at ho3)); have n0_ := Aside0.mk (Kd.R_lower ho3 (below_size (by repeat (first | (with_reducible first | exact HB.out | apply below_alloc | apply pw_below_drewN | apply below_drew1) | exact HB.out)))); have n1_ := Aside0.mk (below_step (by repeat (first | (with_reducible first | exact HB.out | apply below_alloc | apply pw_below_drewN | apply below_drew1) | exact HB.out)) hb); clear HB; have HO206 := n0_; have HB := n1_; clear n0_ n1_; clear hb ho3))
 go_loopg [3, 11] k (fun kq v3 v11 w' => ∃ (x3_1 : List Int) (x11_1 : Int), v11 = .int .i64 x11_1 ∧ Aside0 (q15z.l0 kq x3_1 l0 (l0.length : Int) x11_1 = some r) ∧ Aside0 (kq ≤ k) ∧ Aside0 (Kd.R (Kd.int .u32) 29 w' w.heap.size (fun _ => True) v3 x3_1) ∧ Aside0 (Below w.heap.size w w'))
 case atStart => exact ⟨(y204), (0), (by first | rfl | (simp; done) | (simp [*]; done)), H', ⟨Nat.le_refl _⟩, ⟨by (with_reducible repeat (first | apply Kd.R_alloc | apply Kd.R_drewN | apply Kd.R_drew)); exact HO206.out⟩, ⟨by repeat (first | (with_reducible first | exact HB.out | apply below_alloc | apply pw_below_drewN | apply below_drew1) | exact HB.out)⟩⟩
 case round =>
  clear H'
  try clear c2
  try clear p2
  obtain ⟨x3_1, x11_1, rfl, HA, HK1, HO_3, HB⟩ := hrel
  cases gk with
  | zero => exact absurd HA.out (by simp [q15z.l0])
  | succ k1 =>
   have H := HA.out
   clear HA
   simp only [q15z.l0] at H
   by_cases c4 : x11_1 < (l0.length : Int)
   ·
    rw [if_pos c4] at H
    have c4b0 : decide (x11_1 < (l0.length : Int)) = true := decide_eq_true c4
    clear c4
    by_cases c5 : 0 ≤ x11_1
    ·
     rw [if_pos c5] at H
     have c5b0 : decide (0 ≤ x11_1) = true := decide_eq_true c5
     clear c5
     by_cases c6 : x11_1 < (l0.length : Int)
     ·
      rw [if_pos c6] at H
      have c6b0 : decide (x11_1 < (l0.length : Int)) = true := decide_eq_true c6
      clear c6
      have H' := Aside0.mk H
      clear H
      have p207 : 0 ≤ (x11_1 : Int) := of_decide_eq_true (by first | (with_reducible assumption) | assumption)
      have q207 : x11_1 < (l0.length : Int) := of_decide_eq_true (by first | (with_reducible assumption) | assumption)
      obtain ⟨ad207, A207_0, c207_0, e207, hx207_0, hl207_0, hi207_0⟩ := at_L2 HR0.out x11_1 p207 q207
      cases e207
      replace hx207_0 := (HB.out.cell (World.block_lt_of_cell? w _ hx207_0)).trans hx207_0
      have HR207_0 := Aside0.mk hi207_0
      have HC207_0 := Aside0.mk hl207_0
      clear hi207_0 hl207_0
      replace p207 := eq_true p207
      replace q207 := eq_true q207
      go_wp2
      go_loopg [3, 17] k1 (fun kq v3 v17 w' => ∃ (x3_2 : List Int) (x17_2 : Int), v17 = .int .i64 x17_2 ∧ Aside0 (q15z.l1 kq x3_2 l0 (l0.length : Int) x11_1 (rd_L2 l0 x11_1) ((rd_L2 l0 x11_1).length : Int) x17_2 = some r) ∧ Aside0 (kq ≤ k1) ∧ Aside0 (Kd.R (Kd.int .u32) 29 w' w.heap.size (fun _ => True) v3 x3_2) ∧ Aside0 (Below w.heap.size w w'))
      case atStart => exact ⟨(x3_1), (0), (by first | rfl | (simp; done) | (simp [*]; done)), H', ⟨Nat.le_refl _⟩, ⟨by (with_reducible repeat (first | apply Kd.R_alloc | apply Kd.R_drewN | apply Kd.R_drew)); exact HO_3.out⟩, ⟨by repeat (first | (with_reducible first | exact HB.out | apply below_alloc | apply pw_below_drewN | apply below_drew1) | exact HB.out)⟩⟩
      case round =>
       clear H'
       try clear c2
       try clear p2
       try clear q2
       try clear hx2
       try clear c4
       try clear c4b0
       try clear c5
       try clear c5b0
       try clear c6
       try clear c6b0
       try clear hx207_0
       try clear p2
       try clear p207
       try clear q207
       obtain ⟨x3_2, x17_2, rfl, HA, HK2, HO_3, HB⟩ := hrel
       cases gk with
       | zero => exact absurd HA.out (by simp [q15z.l1])
       | succ k2 =>
        have H := HA.out
        clear HA
        simp only [q15z.l1] at H
        by_cases c7 : x17_2 < ((rd_L2 l0 x11_1).length : Int)
        ·
         rw [if_pos c7] at H
         have c7b0 : decide (x17_2 < ((rd_L2 l0 x11_1).length : Int)) = true := decide_eq_true c7
         clear c7
         by_cases c8 : 0 ≤ x17_2
         ·
          rw [if_pos c8] at H
          have c8b0 : decide (0 ≤ x17_2) = true := decide_eq_true c8
          clear c8
          by_cases c9 : x17_2 < ((rd_L2 l0 x11_1).length : Int)
          ·
           rw [if_pos c9] at H
           have c9b0 : decide (x17_2 < ((rd_L2 l0 x11_1).length : Int)) = true := decide_eq_true c9
           clear c9
           by_cases c10 : ((rd_T33 (rd_L2 l0 x11_1) x17_2).f0) > ((rd_T33 (rd_L2 l0 x11_1) x17_2).f1)
           ·
            rw [if_pos c10] at H
            have c10b0 : decide (((rd_T33 (rd_L2 l0 x11_1) x17_2).f1) < ((rd_T33 (rd_L2 l0 x11_1) x17_2).f0)) = true := decide_eq_true c10
            clear c10
            have H' := Aside0.mk H
            clear H
            have p208 : 0 ≤ (x17_2 : Int) := of_decide_eq_true (by first | (with_reducible assumption) | assumption)
            have q208 : x17_2 < ((rd_L2 l0 x11_1).length : Int) := of_decide_eq_true (by first | (with_reducible assumption) | assumption)
            obtain ⟨ad208, e208, hx208_0, hx208_1⟩ := at_T33 HR207_0.out x17_2 p208 q208
            cases e208
            replace hx208_0 := (HB.out.cell (World.block_lt_of_cell? w _ hx208_0)).trans hx208_0
            replace hx208_1 := (HB.out.cell (World.block_lt_of_cell? w _ hx208_1)).trans hx208_1
            replace p208 := eq_true p208
            replace q208 := eq_true q208
            go_wp2_with (first | ((with_reducible refine gate_dst (N := 7) rfl ?_); refine box_event ?hg (N := 7) ?hd (cs := #[.int .u32 0, .int .u32 0]) (t := 33) ?hr ?_; (case hd => rfl); (case hg => rfl); (case hr => first | (go_simp; done) | (go_simp; rfl)); intro gb209 hg w11 hbox hb; have n0_ := Aside0.mk (Kd.R_below (by (with_reducible repeat (first | apply Kd.R_alloc | apply Kd.R_drewN | apply Kd.R_drew)); exact HO_3.out) hb); have n1_ := Aside0.mk (below_step (by repeat (first | (with_reducible first | exact HB.out | apply below_alloc | apply pw_below_drewN | apply below_drew1) | exact HB.out)) hb); have n2_ := Aside0.mk (hbox); have n3_ := Aside0.mk ((by rw [hg]; exact (below_size (by repeat (first | (with_reducible first | exact HB.out | apply below_alloc | apply pw_below_drewN | apply below_drew1) | exact HB.out))) : w.heap.size ≤ gb209)); have n4_ := Aside0.mk ((by rw [hg]; exact (below_size (by repeat (first | (with_reducible first | exact HB.out | apply below_alloc | apply pw_below_drewN | apply below_drew1) | exact HB.out))) : w.heap.size ≤ gb209)); clear HO_3; clear HB; have HO_3 := n0_; have HB := n1_; have BK209 := n2_; have GW209 := n3_; have GE209 := n4_; clear n0_ n1_ n2_ n3_ n4_; clear hb hbox hg; have hcz12_0 : w11.cell? ⟨gb209, 0, none⟩ = some (.int .u32 0) := (blk_cell BK209.out 0).trans rfl; have hcz12_1 : w11.cell? ⟨gb209, 1, none⟩ = some (.int .u32 0) := (blk_cell BK209.out 1).trans rfl; have hfz12_0 := blk_frozen BK209.out 0; have hfz12_1 := blk_frozen BK209.out 1))
            go_roundg k2
            case measure => have := HK1.out; have := HK2.out; omega
            case rel => exact ⟨(x3_2), (wrap64 (x17_2 + 1)), (by first | rfl | (simp; done) | (simp [*]; done)), H', ⟨by have := HK1.out; have := HK2.out; omega⟩, ⟨by (with_reducible repeat (first | apply Kd.R_alloc | apply Kd.R_drewN | apply Kd.R_drew)); exact Kd.R_mono (Kd.R_far (p := ⟨gb209, 1, none⟩) (Kd.R_far (p := ⟨gb209, 0, none⟩) (Kd.R_types HO_3.out BK209.out (by decide)) (fun _ hk => hk.2) (.int .u32 ((rd_T33 (rd_L2 l0 x11_1) x17_2).f0))) (fun _ hk => hk.2) (.int .u32 ((rd_T33 (rd_L2 l0 x11_1) x17_2).f1))) (fun _ hk => trivial)⟩, ⟨by repeat (first | (with_reducible first | exact HB.out | apply below_alloc | apply pw_below_drewN | apply below_drew1 | refine below_set ?_ GE209.out) | exact HB.out)⟩⟩
           ·
            rw [if_neg c10] at H
            have c10b0 : decide (((rd_T33 (rd_L2 l0 x11_1) x17_2).f1) < ((rd_T33 (rd_L2 l0 x11_1) x17_2).f0)) = false := decide_eq_false c10
            clear c10
            replace H := Option.bind_eq_some_iff.mp H
            obtain ⟨t210, A130, H⟩ := H
            replace H : (if ((rd_T33 (rd_L2 l0 x11_1) x17_2).f1) < 4294967295 then ((q14z.f k2 t210 ((((rd_T33 (rd_L2 l0 x11_1) x17_2).f1) + 1) % 4294967296)).bind fun t213 => (q15z.l1 k2 t213 l0 (l0.length : Int) x11_1 (rd_L2 l0 x11_1) ((rd_L2 l0 x11_1).length : Int) (wrap64 (x17_2 + 1)))) else (q15z.l1 k2 t210 l0 (l0.length : Int) x11_1 (rd_L2 l0 x11_1) ((rd_L2 l0 x11_1).length : Int) (wrap64 (x17_2 + 1)))) = some r := H
            have A13 := Aside0.mk A130
            clear A130
            by_cases c14 : ((rd_T33 (rd_L2 l0 x11_1) x17_2).f1) < 4294967295
            ·
             rw [if_pos c14] at H
             have c14b0 : decide (((rd_T33 (rd_L2 l0 x11_1) x17_2).f1) < 4294967295) = true := decide_eq_true c14
             clear c14
             replace H := Option.bind_eq_some_iff.mp H
             obtain ⟨t213, A150, H⟩ := H
             replace H : (q15z.l1 k2 t213 l0 (l0.length : Int) x11_1 (rd_L2 l0 x11_1) ((rd_L2 l0 x11_1).length : Int) (wrap64 (x17_2 + 1))) = some r := H
             have A15 := Aside0.mk A150
             clear A150
             have H' := Aside0.mk H
             clear H
             have p208 : 0 ≤ (x17_2 : Int) := of_decide_eq_true (by first | (with_reducible assumption) | assumption)
             have q208 : x17_2 < ((rd_L2 l0 x11_1).length : Int) := of_decide_eq_true (by first | (with_reducible assumption) | assumption)
             obtain ⟨ad208, e208, hx208_0, hx208_1⟩ := at_T33 HR207_0.out x17_2 p208 q208
             cases e208
             replace hx208_0 := (HB.out.cell (World.block_lt_of_cell? w _ hx208_0)).trans hx208_0
             replace hx208_1 := (HB.out.cell (World.block_lt_of_cell? w _ hx208_1)).trans hx208_1
             replace p208 := eq_true p208
             replace q208 := eq_true q208
             go_wp2_with (first | ((with_reducible refine gate_dst (N := 7) rfl ?_); refine box_event ?hg (N := 7) ?hd (cs := #[.int .u32 0, .int .u32 0]) (t := 33) ?hr ?_; (case hd => rfl); (case hg => rfl); (case hr => first | (go_simp; done) | (go_simp; rfl)); intro gb209 hg w16 hbox hb; have n0_ := Aside0.mk (Kd.R_below (by (with_reducible repeat (first | apply Kd.R_alloc | apply Kd.R_drewN | apply Kd.R_drew)); exact HO_3.out) hb); have n1_ := Aside0.mk (below_step (by repeat (first | (with_reducible first | exact HB.out | apply below_alloc | apply pw_below_drewN | apply below_drew1) | exact HB.out)) hb); have n2_ := Aside0.mk (hbox); have n3_ := Aside0.mk ((by rw [hg]; exact (below_size (by repeat (first | (with_reducible first | exact HB.out | apply below_alloc | apply pw_below_drewN | apply below_drew1) | exact HB.out))) : w.heap.size ≤ gb209)); have n4_ := Aside0.mk ((by rw [hg]; exact (below_size (by repeat (first | (with_reducible first | exact HB.out | apply below_alloc | apply pw_below_drewN | apply below_drew1) | exact HB.out))) : w.heap.size ≤ gb209)); clear HO_3; clear HB; have HO_3 := n0_; have HB := n1_; have BK209 := n2_; have GW209 := n3_; have GE209 := n4_; clear n0_ n1_ n2_ n3_ n4_; clear hb hbox hg; have hcz17_0 : w16.cell? ⟨gb209, 0, none⟩ = some (.int .u32 0) := (blk_cell BK209.out 0).trans rfl; have hcz17_1 : w16.cell? ⟨gb209, 1, none⟩ = some (.int .u32 0) := (blk_cell BK209.out 1).trans rfl; have hfz17_0 := blk_frozen BK209.out 0; have hfz17_1 := blk_frozen BK209.out 1) | ((with_reducible refine gate_store (t := 33) (p := 7) rfl ?_); refine store_event (t := 33) (p := 7) (v := ?vo_w18) (w1 := ((w16.setCell ⟨gb209, 0, none⟩ (.int .u32 ((rd_T33 (rd_L2 l0 x11_1) x17_2).f0))).setCell ⟨gb209, 1, none⟩ (.int .u32 ((rd_T33 (rd_L2 l0 x11_1) x17_2).f1)))) ?hg ?ho ?hn ?hr ?_; (case ho => rfl); (case hg => rfl); (case hn => rfl); (case hr => first | (go_simp; done) | (go_simp; rfl)); intro w18 hw; have n0_ : Aside0 (Kd.R (Kd.int .u32) 29 w18 w.heap.size (fun _ => True) u3 x3_2) := ⟨(by rw [hw]; exact (by (with_reducible repeat (first | apply Kd.R_alloc | apply Kd.R_drewN | apply Kd.R_drew)); exact Kd.R_mono (Kd.R_far (p := ⟨gb209, 1, none⟩) (Kd.R_far (p := ⟨gb209, 0, none⟩) (Kd.R_types HO_3.out BK209.out (by decide)) (fun _ hk => hk.2) (.int .u32 ((rd_T33 (rd_L2 l0 x11_1) x17_2).f0))) (fun _ hk => hk.2) (.int .u32 ((rd_T33 (rd_L2 l0 x11_1) x17_2).f1))) (fun _ hk => trivial)))⟩; have n1_ : Aside0 (w18.heap[gb209]? = some (.cells #[.int .u32 ((rd_T33 (rd_L2 l0 x11_1) x17_2).f0), .int .u32 ((rd_T33 (rd_L2 l0 x11_1) x17_2).f1)] 33 (0, 0))) := ⟨(by rw [hw]; exact (by (with_reducible repeat (first | refine blk_drewN ?_ _ | refine blk_drew ?_ | refine blk_alloc ?_ _)); refine blk_put (cs := #[.int .u32 ((rd_T33 (rd_L2 l0 x11_1) x17_2).f0), .int .u32 0]) ?_ 1 _ rfl; (with_reducible repeat (first | refine blk_drewN ?_ _ | refine blk_drew ?_ | refine blk_alloc ?_ _)); refine blk_put (cs := #[.int .u32 0, .int .u32 0]) ?_ 0 _ rfl; (with_reducible repeat (first | refine blk_drewN ?_ _ | refine blk_drew ?_ | refine blk_alloc ?_ _)); exact BK209.out))⟩; have n2_ : Aside0 (Below w.heap.size w w18) := ⟨(by rw [hw]; exact (by repeat (first | (with_reducible first | exact HB.out | apply below_alloc | apply pw_below_drewN | apply below_drew1 | refine below_set ?_ GE209.out) | exact HB.out)))⟩; clear hw; clear HO_3; clear BK209; clear HB; have HO_3 := n0_; have BK209 := n1_; have HB := n2_; clear n0_ n1_ n2_; have hcz19_0 : w18.cell? ⟨gb209, 0, none⟩ = some (.int .u32 ((rd_T33 (rd_L2 l0 x11_1) x17_2).f0)) := (blk_cell BK209.out 0).trans rfl; have hcz19_1 : w18.cell? ⟨gb209, 1, none⟩ = some (.int .u32 ((rd_T33 (rd_L2 l0 x11_1) x17_2).f1)) := (blk_cell BK209.out 1).trans rfl; have hfz19_0 := blk_frozen BK209.out 0; have hfz19_1 := blk_frozen BK209.out 1; obtain ⟨Ao20, co20, eo20⟩ := Kd.R_slice HO_3.out; subst eo20) | ((with_reducible refine gate_callee (f := 35) rfl ?_); refine goesL_ (some 29) rfl rfl Try.func35 (by kernel_rfl) rfl #[.slice Ao20 x3_2.length co20, .int .u32 ((rd_T33 (rd_L2 l0 x11_1) x17_2).f0)] rfl (by (try simp only [List.map_toArray, List.map_cons, List.map_nil]); first | done | rfl | (simp only [List.length_drop, List.length_take]; rfl)) ?_; (with_reducible refine (q14z.calls k2 (fun k_ => some k_ = (.slice Ao20 x3_2.length co20 : Value).ownBlock) (.slice Ao20 x3_2.length co20) x3_2 ((rd_T33 (rd_L2 l0 x11_1) x17_2).f0) t210 w _ ?side1 ?side2 A13.out).mono ?_); (case side1 => repeat (first | (with_reducible first | exact HB.out | apply below_alloc | apply pw_below_drewN | apply below_drew1 | refine below_set ?_ GE209.out) | exact HB.out)); (case side2 => exact Kd.R_tight rfl HO_3.out); rintro e w21 ⟨v211, rfl, ho0, hb, hkp⟩; refine ⟨_, rfl, ?_⟩; have n0_ := Aside0.mk (blk_kept (by (with_reducible repeat (first | refine blk_drewN ?_ _ | refine blk_drew ?_ | refine blk_alloc ?_ _)); exact BK209.out) hkp (fun hs_ => (fun e_ => (Kd.R_ne HO_3.out BK209.out (by decide)) e_) hs_)); have n1_ := Aside0.mk (Kd.R_mono (ok' := fun k_ => True) ho0 (fun k_ hk_ => trivial)); have n2_ := Aside0.mk (hb); clear BK209; clear HB; clear HO_3; have BK209 := n0_; have HO212 := n1_; have HB := n2_; clear n0_ n1_ n2_; (try clear hb); (try clear hkp); (try clear ho0); have hcz22_0 : w21.cell? ⟨gb209, 0, none⟩ = some (.int .u32 ((rd_T33 (rd_L2 l0 x11_1) x17_2).f0)) := (blk_cell BK209.out 0).trans rfl; have hcz22_1 : w21.cell? ⟨gb209, 1, none⟩ = some (.int .u32 ((rd_T33 (rd_L2 l0 x11_1) x17_2).f1)) := (blk_cell BK209.out 1).trans rfl; have hfz22_0 := blk_frozen BK209.out 0; have hfz22_1 := blk_frozen BK209.out 1; obtain ⟨Ao23, co23, eo23⟩ := Kd.R_slice HO212.out; subst eo23) | ((with_reducible refine gate_callee (f := 35) rfl ?_); refine goesL_ (some 37) rfl rfl Try.func35 (by kernel_rfl) rfl #[.slice Ao23 t210.length co23, .int .u32 ((((rd_T33 (rd_L2 l0 x11_1) x17_2).f1) + 1) % 4294967296)] rfl (by (try simp only [List.map_toArray, List.map_cons, List.map_nil]); first | done | rfl | (simp only [List.length_drop, List.length_take]; rfl)) ?_; (with_reducible refine (q14z.calls k2 (fun k_ => some k_ = (.slice Ao23 t210.length co23 : Value).ownBlock) (.slice Ao23 t210.length co23) t210 ((((rd_T33 (rd_L2 l0 x11_1) x17_2).f1) + 1) % 4294967296) t213 w _ ?side1 ?side2 A15.out).mono ?_); (case side1 => repeat (first | (with_reducible first | exact HB.out | apply below_alloc | apply pw_below_drewN | apply below_drew1 | refine below_set ?_ GE209.out) | exact HB.out)); (case side2 => exact Kd.R_tight rfl HO212.out); rintro e w24 ⟨v214, rfl, ho0, hb, hkp⟩; refine ⟨_, rfl, ?_⟩; have n0_ := Aside0.mk (blk_kept (by (with_reducible repeat (first | refine blk_drewN ?_ _ | refine blk_drew ?_ | refine blk_alloc ?_ _)); exact BK209.out) hkp (fun hs_ => (fun e_ => (Kd.R_ne HO212.out BK209.out (by decide)) e_) hs_)); have n1_ := Aside0.mk (Kd.R_mono (ok' := fun k_ => True) ho0 (fun k_ hk_ => trivial)); have n2_ := Aside0.mk (hb); clear BK209; clear HB; clear HO212; have BK209 := n0_; have HO215 := n1_; have HB := n2_; clear n0_ n1_ n2_; (try clear hb); (try clear hkp); (try clear ho0)))
             go_roundg k2
             case measure => have := HK1.out; have := HK2.out; omega
             case rel => exact ⟨(t213), (wrap64 (x17_2 + 1)), (by first | rfl | (simp; done) | (simp [*]; done)), H', ⟨by have := HK1.out; have := HK2.out; omega⟩, ⟨by (with_reducible repeat (first | apply Kd.R_alloc | apply Kd.R_drewN | apply Kd.R_drew)); exact HO215.out⟩, ⟨by repeat (first | (with_reducible first | exact HB.out | apply below_alloc | apply pw_below_drewN | apply below_drew1 | refine below_set ?_ GE209.out) | exact HB.out)⟩⟩
            ·
             rw [if_neg c14] at H
             have c14b0 : decide (((rd_T33 (rd_L2 l0 x11_1) x17_2).f1) < 4294967295) = false := decide_eq_false c14
             clear c14
             have H' := Aside0.mk H
             clear H
             have p208 : 0 ≤ (x17_2 : Int) := of_decide_eq_true (by first | (with_reducible assumption) | assumption)
             have q208 : x17_2 < ((rd_L2 l0 x11_1).length : Int) := of_decide_eq_true (by first | (with_reducible assumption) | assumption)
             obtain ⟨ad208, e208, hx208_0, hx208_1⟩ := at_T33 HR207_0.out x17_2 p208 q208
             cases e208
             replace hx208_0 := (HB.out.cell (World.block_lt_of_cell? w _ hx208_0)).trans hx208_0
             replace hx208_1 := (HB.out.cell (World.block_lt_of_cell? w _ hx208_1)).trans hx208_1
             replace p208 := eq_true p208
             replace q208 := eq_true q208
             go_wp2_with (first | ((with_reducible refine gate_dst (N := 7) rfl ?_); refine box_event ?hg (N := 7) ?hd (cs := #[.int .u32 0, .int .u32 0]) (t := 33) ?hr ?_; (case hd => rfl); (case hg => rfl); (case hr => first | (go_simp; done) | (go_simp; rfl)); intro gb209 hg w25 hbox hb; have n0_ := Aside0.mk (Kd.R_below (by (with_reducible repeat (first | apply Kd.R_alloc | apply Kd.R_drewN | apply Kd.R_drew)); exact HO_3.out) hb); have n1_ := Aside0.mk (below_step (by repeat (first | (with_reducible first | exact HB.out | apply below_alloc | apply pw_below_drewN | apply below_drew1) | exact HB.out)) hb); have n2_ := Aside0.mk (hbox); have n3_ := Aside0.mk ((by rw [hg]; exact (below_size (by repeat (first | (with_reducible first | exact HB.out | apply below_alloc | apply pw_below_drewN | apply below_drew1) | exact HB.out))) : w.heap.size ≤ gb209)); have n4_ := Aside0.mk ((by rw [hg]; exact (below_size (by repeat (first | (with_reducible first | exact HB.out | apply below_alloc | apply pw_below_drewN | apply below_drew1) | exact HB.out))) : w.heap.size ≤ gb209)); clear HO_3; clear HB; have HO_3 := n0_; have HB := n1_; have BK209 := n2_; have GW209 := n3_; have GE209 := n4_; clear n0_ n1_ n2_ n3_ n4_; clear hb hbox hg; have hcz26_0 : w25.cell? ⟨gb209, 0, none⟩ = some (.int .u32 0) := (blk_cell BK209.out 0).trans rfl; have hcz26_1 : w25.cell? ⟨gb209, 1, none⟩ = some (.int .u32 0) := (blk_cell BK209.out 1).trans rfl; have hfz26_0 := blk_frozen BK209.out 0; have hfz26_1 := blk_frozen BK209.out 1) | ((with_reducible refine gate_store (t := 33) (p := 7) rfl ?_); refine store_event (t := 33) (p := 7) (v := ?vo_w27) (w1 := ((w25.setCell ⟨gb209, 0, none⟩ (.int .u32 ((rd_T33 (rd_L2 l0 x11_1) x17_2).f0))).setCell ⟨gb209, 1, none⟩ (.int .u32 ((rd_T33 (rd_L2 l0 x11_1) x17_2).f1)))) ?hg ?ho ?hn ?hr ?_; (case ho => rfl); (case hg => rfl); (case hn => rfl); (case hr => first | (go_simp; done) | (go_simp; rfl)); intro w27 hw; have n0_ : Aside0 (Kd.R (Kd.int .u32) 29 w27 w.heap.size (fun _ => True) u3 x3_2) := ⟨(by rw [hw]; exact (by (with_reducible repeat (first | apply Kd.R_alloc | apply Kd.R_drewN | apply Kd.R_drew)); exact Kd.R_mono (Kd.R_far (p := ⟨gb209, 1, none⟩) (Kd.R_far (p := ⟨gb209, 0, none⟩) (Kd.R_types HO_3.out BK209.out (by decide)) (fun _ hk => hk.2) (.int .u32 ((rd_T33 (rd_L2 l0 x11_1) x17_2).f0))) (fun _ hk => hk.2) (.int .u32 ((rd_T33 (rd_L2 l0 x11_1) x17_2).f1))) (fun _ hk => trivial)))⟩; have n1_ : Aside0 (w27.heap[gb209]? = some (.cells #[.int .u32 ((rd_T33 (rd_L2 l0 x11_1) x17_2).f0), .int .u32 ((rd_T33 (rd_L2 l0 x11_1) x17_2).f1)] 33 (0, 0))) := ⟨(by rw [hw]; exact (by (with_reducible repeat (first | refine blk_drewN ?_ _ | refine blk_drew ?_ | refine blk_alloc ?_ _)); refine blk_put (cs := #[.int .u32 ((rd_T33 (rd_L2 l0 x11_1) x17_2).f0), .int .u32 0]) ?_ 1 _ rfl; (with_reducible repeat (first | refine blk_drewN ?_ _ | refine blk_drew ?_ | refine blk_alloc ?_ _)); refine blk_put (cs := #[.int .u32 0, .int .u32 0]) ?_ 0 _ rfl; (with_reducible repeat (first | refine blk_drewN ?_ _ | refine blk_drew ?_ | refine blk_alloc ?_ _)); exact BK209.out))⟩; have n2_ : Aside0 (Below w.heap.size w w27) := ⟨(by rw [hw]; exact (by repeat (first | (with_reducible first | exact HB.out | apply below_alloc | apply pw_below_drewN | apply below_drew1 | refine below_set ?_ GE209.out) | exact HB.out)))⟩; clear hw; clear HO_3; clear BK209; clear HB; have HO_3 := n0_; have BK209 := n1_; have HB := n2_; clear n0_ n1_ n2_; have hcz28_0 : w27.cell? ⟨gb209, 0, none⟩ = some (.int .u32 ((rd_T33 (rd_L2 l0 x11_1) x17_2).f0)) := (blk_cell BK209.out 0).trans rfl; have hcz28_1 : w27.cell? ⟨gb209, 1, none⟩ = some (.int .u32 ((rd_T33 (rd_L2 l0 x11_1) x17_2).f1)) := (blk_cell BK209.out 1).trans rfl; have hfz28_0 := blk_frozen BK209.out 0; have hfz28_1 := blk_frozen BK209.out 1; obtain ⟨Ao29, co29, eo29⟩ := Kd.R_slice HO_3.out; subst eo29) | ((with_reducible refine gate_callee (f := 35) rfl ?_); refine goesL_ (some 29) rfl rfl Try.func35 (by kernel_rfl) rfl #[.slice Ao29 x3_2.length co29, .int .u32 ((rd_T33 (rd_L2 l0 x11_1) x17_2).f0)] rfl (by (try simp only [List.map_toArray, List.map_cons, List.map_nil]); first | done | rfl | (simp only [List.length_drop, List.length_take]; rfl)) ?_; (with_reducible refine (q14z.calls k2 (fun k_ => some k_ = (.slice Ao29 x3_2.length co29 : Value).ownBlock) (.slice Ao29 x3_2.length co29) x3_2 ((rd_T33 (rd_L2 l0 x11_1) x17_2).f0) t210 w _ ?side1 ?side2 A13.out).mono ?_); (case side1 => repeat (first | (with_reducible first | exact HB.out | apply below_alloc | apply pw_below_drewN | apply below_drew1 | refine below_set ?_ GE209.out) | exact HB.out)); (case side2 => exact Kd.R_tight rfl HO_3.out); rintro e w30 ⟨v211, rfl, ho0, hb, hkp⟩; refine ⟨_, rfl, ?_⟩; have n0_ := Aside0.mk (blk_kept (by (with_reducible repeat (first | refine blk_drewN ?_ _ | refine blk_drew ?_ | refine blk_alloc ?_ _)); exact BK209.out) hkp (fun hs_ => (fun e_ => (Kd.R_ne HO_3.out BK209.out (by decide)) e_) hs_)); have n1_ := Aside0.mk (Kd.R_mono (ok' := fun k_ => True) ho0 (fun k_ hk_ => trivial)); have n2_ := Aside0.mk (hb); clear BK209; clear HB; clear HO_3; have BK209 := n0_; have HO212 := n1_; have HB := n2_; clear n0_ n1_ n2_; (try clear hb); (try clear hkp); (try clear ho0); have hcz31_0 : w30.cell? ⟨gb209, 0, none⟩ = some (.int .u32 ((rd_T33 (rd_L2 l0 x11_1) x17_2).f0)) := (blk_cell BK209.out 0).trans rfl; have hcz31_1 : w30.cell? ⟨gb209, 1, none⟩ = some (.int .u32 ((rd_T33 (rd_L2 l0 x11_1) x17_2).f1)) := (blk_cell BK209.out 1).trans rfl; have hfz31_0 := blk_frozen BK209.out 0; have hfz31_1 := blk_frozen BK209.out 1))
             go_roundg k2
             case measure => have := HK1.out; have := HK2.out; omega
             case rel => exact ⟨(t210), (wrap64 (x17_2 + 1)), (by first | rfl | (simp; done) | (simp [*]; done)), H', ⟨by have := HK1.out; have := HK2.out; omega⟩, ⟨by (with_reducible repeat (first | apply Kd.R_alloc | apply Kd.R_drewN | apply Kd.R_drew)); exact HO212.out⟩, ⟨by repeat (first | (with_reducible first | exact HB.out | apply below_alloc | apply pw_below_drewN | apply below_drew1 | refine below_set ?_ GE209.out) | exact HB.out)⟩⟩
          ·
           rw [if_neg c9] at H
           exact absurd H (by simp)
         ·
          rw [if_neg c8] at H
          exact absurd H (by simp)
        ·
         rw [if_neg c7] at H
         have c7b0 : decide (x17_2 < ((rd_L2 l0 x11_1).length : Int)) = false := decide_eq_false c7
         clear c7
         have H' := Aside0.mk H
         clear H
         go_wp2
         go_roundg k2
         case measure => have := HK1.out; have := HK2.out; omega
         case rel => exact ⟨(x3_2), (wrap64 (x11_1 + 1)), (by first | rfl | (simp; done) | (simp [*]; done)), H', ⟨by have := HK1.out; have := HK2.out; omega⟩, ⟨by (with_reducible repeat (first | apply Kd.R_alloc | apply Kd.R_drewN | apply Kd.R_drew)); exact HO_3.out⟩, ⟨by repeat (first | (with_reducible first | exact HB.out | apply below_alloc | apply pw_below_drewN | apply below_drew1) | exact HB.out)⟩⟩
     ·
      rw [if_neg c6] at H
      exact absurd H (by simp)
    ·
     rw [if_neg c5] at H
     exact absurd H (by simp)
   ·
    rw [if_neg c4] at H
    have c4b0 : decide (x11_1 < (l0.length : Int)) = false := decide_eq_false c4
    clear c4
    obtain rfl := Option.some.inj H
    go_wp2
    go_ret
    exact ⟨_, by first | rfl | (simp [errW_none, errW_some] <;> rfl) | (simp [*, errW_none, errW_some] <;> rfl), by (with_reducible repeat (first | apply Kd.R_alloc | apply Kd.R_drewN | apply Kd.R_drew)); exact HO_3.out, by repeat (first | (with_reducible first | exact HB.out | apply below_alloc | apply pw_below_drewN | apply below_drew1) | exact HB.out)⟩

end Go.Proofs.Ytconaifcjnpabaa.P

namespace Go.Proofs.Ytconaifcjnpabaa.P
open Go.RowKit Go.Proofs.YtconaifcjnpabaaW.PrintWords Go.Proofs.YtconaifcjnpabaaW.PrintLast Go.Proofs.YtconaifcjnpabaaW.PrintMore
attribute [local go_sem] max2_int min2_int max_two min_two max_three min_three max_four min_four
set_option linter.unusedVariables false
set_option linter.unusedSimpArgs false

/-! ### dragomanref01_end: function 25 -/
def q16z.f (l0 : List Int) (a1 : Int) : Option (Int) := if a1 = (wrap64 ((l0.length : Int) - 1)) then (some 4294967295) else (if 0 ≤ (wrap64 (a1 + 1)) then (if (wrap64 (a1 + 1)) < (l0.length : Int) then (some (((rd l0 (wrap64 (a1 + 1))) - 1) % 4294967296)) else (none)) else (none))
set_option maxHeartbeats 8000000 in
set_option maxRecDepth 100000 in
theorem q16z.calls (A0 : Option Addr) (c0 : Nat) (l0 : List Int) (a1 : Int) (r : Int) (w : World) (hr0 : Kd.C (Kd.int .u32) w A0 l0.length l0) (hc0 : l0.length ≤ c0) (h : q16z.f l0 a1 = some r) :
  Calls Try.prog 25 #[.slice A0 l0.length c0, .int .i64 a1] w fun e w' => e = .returned (.int .u32 r) ∧ Drawn0 w w' := by
 have HR0 := Aside0.mk hr0
 have HC0 := Aside0.mk hc0
 clear hr0 hc0
 have H : (if a1 = (wrap64 ((l0.length : Int) - 1)) then (some 4294967295) else (if 0 ≤ (wrap64 (a1 + 1)) then (if (wrap64 (a1 + 1)) < (l0.length : Int) then (some (((rd l0 (wrap64 (a1 + 1))) - 1) % 4294967296)) else (none)) else (none))) = some r := h
 clear h
 by_cases c3 : a1 = (wrap64 ((l0.length : Int) - 1))
 ·
  rw [if_pos c3] at H
  have c3b0 : (a1 == (wrap64 ((l0.length : Int) - 1))) = true := beq_iff_eq.mpr c3
  have c3b1 : (a1 != (wrap64 ((l0.length : Int) - 1))) = false := bne_eq_false_iff_eq.mpr c3
  clear c3
  obtain rfl := Option.some.inj H
  go_enter Try.func25, Try.ntmps25
  go_wp2
  go_ret
  exact ⟨by first | rfl | (simp; done) | (simp [*]; done), by repeat (first | exact Drawn0.refl _ | apply Drawn0.step)⟩
 ·
  rw [if_neg c3] at H
  have c3b0 : (a1 == (wrap64 ((l0.length : Int) - 1))) = false := beq_eq_false_iff_ne.mpr c3
  have c3b1 : (a1 != (wrap64 ((l0.length : Int) - 1))) = true := bne_iff_ne.mpr c3
  obtain ⟨ji4, hji4⟩ : ∃ j_ : Int, (wrap64 (a1 + 1)) = j_ := ⟨_, rfl⟩
  replace H : (if 0 ≤ (ji4) then (if (ji4) < (l0.length : Int) then (some (((rd l0 (ji4)) - 1) % 4294967296)) else (none)) else (none)) = some r := by first | (rw [hji4] at H; exact H) | (simp only [hji4] at H ⊢; exact H)
  have hji4w : (IntKind.i64.wrap (a1 + 1)) = ji4 := (i64_w _).trans hji4
  by_cases c5 : 0 ≤ (ji4)
  ·
   rw [if_pos c5] at H
   have c5b0 : decide (0 ≤ (ji4)) = true := decide_eq_true c5
   clear c5
   by_cases c6 : (ji4) < (l0.length : Int)
   ·
    rw [if_pos c6] at H
    have c6b0 : decide ((ji4) < (l0.length : Int)) = true := decide_eq_true c6
    clear c6
    obtain rfl := Option.some.inj H
    have p216 : 0 ≤ ((ji4) : Int) := of_decide_eq_true (by first | (with_reducible assumption) | assumption)
    have q216 : (ji4) < (l0.length : Int) := of_decide_eq_true (by first | (with_reducible assumption) | assumption)
    obtain ⟨ad216, e216, hx216_0⟩ := Kd.at_int HR0.out (ji4) p216 q216
    cases e216
    replace p216 := eq_true p216
    replace q216 := eq_true q216
    go_enter Try.func25, Try.ntmps25
    go_wp2
    go_ret
    exact ⟨by first | rfl | (simp; done) | (simp only [← hji4] <;> (first | rfl | simp)) | (simp [*]; done), by repeat (first | exact Drawn0.refl _ | apply Drawn0.step)⟩
   ·
    rw [if_neg c6] at H
    exact absurd H (by simp)
  ·
   rw [if_neg c5] at H
   exact absurd H (by simp)

end Go.Proofs.Ytconaifcjnpabaa.P

namespace Go.Proofs.Ytconaifcjnpabaa.P
open Go.RowKit Go.Proofs.YtconaifcjnpabaaW.PrintWords Go.Proofs.YtconaifcjnpabaaW.PrintLast Go.Proofs.YtconaifcjnpabaaW.PrintMore
attribute [local go_sem] max2_int min2_int max_two min_two max_three min_three max_four min_four
set_option linter.unusedVariables false
set_option linter.unusedSimpArgs false

/-! ### dragomanref01_from: function 32 -/
mutual
def q17z.l0 : Nat → List Int → List Bool → List (S33) → List Int → Int → Int → Option ((List (S33)))
 | 0, _, _, _, _, _, _ => none
 | k + 1, x0, x1, x5, x8, x9, x10 => if x10 < x9 then (if 0 ≤ x10 then (if x10 < (x8.length : Int) then (if x10 < (x1.length : Int) then (if rdOf false x1 x10 = true then (if x10 > 0 then (if 0 ≤ (wrap64 (x10 - 1)) then (if (wrap64 (x10 - 1)) < (x1.length : Int) then (q17z.j1 k x0 x1 x5 x10 (rd x8 x10) x8 x9 x10 (rdOf false x1 (wrap64 (x10 - 1)))) else (none)) else (none)) else (q17z.j1 k x0 x1 x5 x10 (rd x8 x10) x8 x9 x10 false)) else (q17z.l0 k x0 x1 x5 x8 x9 (wrap64 (x10 + 1)))) else (none)) else (none)) else (none)) else (some x5)
def q17z.j1 : Nat → List Int → List Bool → List (S33) → Int → Int → List Int → Int → Int → Bool → Option ((List (S33)))
 | 0, _, _, _, _, _, _, _, _, _ => none
 | k + 1, x0, x1, x5, x6, x7, x8, x9, x10, x28 => if x28 = true then ((q16z.f x0 x6).bind fun t250 => (if 0 ≤ (wrap64 ((x5.length : Int) - 1)) then (if (wrap64 ((x5.length : Int) - 1)) < (x5.length : Int) then (q17z.l0 k x0 x1 (x5.set ((wrap64 ((x5.length : Int) - 1)) : Int).toNat (⟨(rd_T33 x5 (wrap64 ((x5.length : Int) - 1))).f0, t250⟩ : S33)) x8 x9 (wrap64 (x10 + 1))) else (none)) else (none))) else ((q16z.f x0 x6).bind fun t252 => (if x5.length < 17592186044416 then (q17z.l0 k x0 x1 (x5 ++ [(⟨x7, t252⟩ : S33)]) x8 x9 (wrap64 (x10 + 1))) else (none)))
end
def q17z.f (k : Nat) (l0 : List Int) (l1 : List Bool) : Option ((List (S33))) := q17z.l0 k l0 l1 ([] : List (S33)) l0 (l0.length : Int) 0
theorem q17z.mono_l : ∀ k, (∀ y0 y1 y2 y3 y4 y5, LeO (q17z.l0 k y0 y1 y2 y3 y4 y5) (q17z.l0 (k + 1) y0 y1 y2 y3 y4 y5)) ∧ (∀ y0 y1 y2 y3 y4 y5 y6 y7 y8, LeO (q17z.j1 k y0 y1 y2 y3 y4 y5 y6 y7 y8) (q17z.j1 (k + 1) y0 y1 y2 y3 y4 y5 y6 y7 y8))
 | 0 => ⟨fun _ _ _ _ _ _ r h => by simp [q17z.l0] at h, fun _ _ _ _ _ _ _ _ _ r h => by simp [q17z.j1] at h⟩
 | k + 1 => by
  obtain ⟨ih0, ih1⟩ := q17z.mono_l k
  refine ⟨?_, ?_⟩
  ·
   intro y0 y1 y2 y3 y4 y5
   unfold q17z.l0
   repeat' first
   | (with_reducible exact ih0 _ _ _ _ _ _)
   | (with_reducible exact ih1 _ _ _ _ _ _ _ _ _)
   | (with_reducible exact LeO.refl _)
   | (with_reducible exact LeO.none _)
   | (with_reducible refine LeO.ite ?_ ?_)
   | (with_reducible refine LeO.bind ?_ (fun _ => ?_))
   | exact ih0 _ _ _ _ _ _
   | exact ih1 _ _ _ _ _ _ _ _ _
   | exact LeO.none _
   | refine LeO.ite ?_ ?_
   | refine LeO.bind ?_ (fun _ => ?_)
  ·
   intro y0 y1 y2 y3 y4 y5 y6 y7 y8
   unfold q17z.j1
   repeat' first
   | (with_reducible exact ih0 _ _ _ _ _ _)
   | (with_reducible exact ih1 _ _ _ _ _ _ _ _ _)
   | (with_reducible exact LeO.refl _)
   | (with_reducible exact LeO.none _)
   | (with_reducible refine LeO.ite ?_ ?_)
   | (with_reducible refine LeO.bind ?_ (fun _ => ?_))
   | exact ih0 _ _ _ _ _ _
   | exact ih1 _ _ _ _ _ _ _ _ _
   | exact LeO.none _
   | refine LeO.ite ?_ ?_
   | refine LeO.bind ?_ (fun _ => ?_)
theorem q17z.mono : ∀ a0 a1 k, LeO (q17z.f k a0 a1) (q17z.f (k + 1) a0 a1) := by
 intro a0 a1 k
 obtain ⟨ih0, ih1⟩ := q17z.mono_l k
 unfold q17z.f
 repeat' first
   | (with_reducible exact ih0 _ _ _ _ _ _)
   | (with_reducible exact ih1 _ _ _ _ _ _ _ _ _)
   | (with_reducible exact LeO.refl _)
   | (with_reducible exact LeO.none _)
   | (with_reducible refine LeO.ite ?_ ?_)
   | (with_reducible refine LeO.bind ?_ (fun _ => ?_))
   | exact ih0 _ _ _ _ _ _
   | exact ih1 _ _ _ _ _ _ _ _ _
   | exact LeO.none _
   | refine LeO.ite ?_ ?_
   | refine LeO.bind ?_ (fun _ => ?_)
set_option maxHeartbeats 8000000 in
set_option maxRecDepth 100000 in
theorem q17z.calls (k : Nat) (A0 : Option Addr) (c0 : Nat) (l0 : List Int) (A1 : Option Addr) (c1 : Nat) (l1 : List Bool) (r : List (S33)) (w : World) (hr0 : Kd.C (Kd.int .u32) w A0 l0.length l0) (hc0 : l0.length ≤ c0) (hr1 : Kd.C Kd.bool w A1 l1.length l1) (hc1 : l1.length ≤ c1) (h : q17z.f k l0 l1 = some r) :
  Calls Try.prog 32 #[.slice A0 l0.length c0, .slice A1 l1.length c1] w fun e w' => ∃ v0_ : Value, e = .returned (v0_) ∧ Kd.R k33 33 w' w.heap.size (fun _ => True) v0_ r ∧ Below w.heap.size w w' := by
 have hu33 := Try.underlying33
 have HR0 := Aside0.mk hr0
 have HC0 := Aside0.mk hc0
 clear hr0 hc0
 have HR1 := Aside0.mk hr1
 have HC1 := Aside0.mk hc1
 clear hr1 hc1
 have HB := Aside0.mk (Below.refl w.heap.size w)
 have H : (q17z.l0 k l0 l1 ([] : List (S33)) l0 (l0.length : Int) 0) = some r := h
 clear h
 have H' := Aside0.mk H
 clear H
 go_enter Try.func32, Try.ntmps32
 go_wp2
 go_loopg [5, 10] k (fun kq v5 v10 w' => ∃ (x5_1 : List (S33)) (x10_1 : Int), v10 = .int .i64 x10_1 ∧ Aside0 (q17z.l0 kq l0 l1 x5_1 l0 (l0.length : Int) x10_1 = some r) ∧ Aside0 (kq ≤ k) ∧ Aside0 (Kd.R k33 33 w' w.heap.size (fun _ => True) v5 x5_1) ∧ Aside0 (Below w.heap.size w w'))
 case atStart => exact ⟨(([] : List (S33))), (0), (by first | rfl | (simp; done) | (simp [*]; done)), H', ⟨Nat.le_refl _⟩, ⟨by first | exact Kd.R_nil _ _ _ _ _ | exact Kd.N_nil _ _ _ _ _ | exact Kd.V_nil _ _ _ _ _ | exact Kd.Q_nil _ _ _ _ _ | exact Kd.S_nil _ _ _ _ _⟩, ⟨by repeat (first | (with_reducible first | exact HB.out | apply below_alloc | apply pw_below_drewN | apply below_drew1) | exact HB.out)⟩⟩
 case round =>
  clear H'
  try clear c1
  try clear p2
  obtain ⟨x5_1, x10_1, rfl, HA, HK1, HO_5, HB⟩ := hrel
  cases gk with
  | zero => exact absurd HA.out (by simp [q17z.l0])
  | succ k1 =>
   have H := HA.out
   clear HA
   simp only [q17z.l0] at H
   by_cases c3 : x10_1 < (l0.length : Int)
   ·
    rw [if_pos c3] at H
    have c3b0 : decide (x10_1 < (l0.length : Int)) = true := decide_eq_true c3
    clear c3
    by_cases c4 : 0 ≤ x10_1
    ·
     rw [if_pos c4] at H
     have c4b0 : decide (0 ≤ x10_1) = true := decide_eq_true c4
     clear c4
     by_cases c5 : x10_1 < (l0.length : Int)
     ·
      rw [if_pos c5] at H
      have c5b0 : decide (x10_1 < (l0.length : Int)) = true := decide_eq_true c5
      clear c5
      by_cases c6 : x10_1 < (l1.length : Int)
      ·
       rw [if_pos c6] at H
       have c6b0 : decide (x10_1 < (l1.length : Int)) = true := decide_eq_true c6
       clear c6
       obtain ⟨bq7, hbq7⟩ : ∃ b_ : Bool, b_ = (rdOf false l1 x10_1) := ⟨_, rfl⟩
       replace H : (if bq7 = true then (if x10_1 > 0 then (if 0 ≤ (wrap64 (x10_1 - 1)) then (if (wrap64 (x10_1 - 1)) < (l1.length : Int) then (q17z.j1 k1 l0 l1 x5_1 x10_1 (rd l0 x10_1) l0 (l0.length : Int) x10_1 (rdOf false l1 (wrap64 (x10_1 - 1)))) else (none)) else (none)) else (q17z.j1 k1 l0 l1 x5_1 x10_1 (rd l0 x10_1) l0 (l0.length : Int) x10_1 false)) else (q17z.l0 k1 l0 l1 x5_1 l0 (l0.length : Int) (wrap64 (x10_1 + 1)))) = some r := by rw [← hbq7] at H; exact H
       have Nbq7 := Aside0.mk hbq7
       clear hbq7
       by_cases c8 : bq7 = true
       ·
        subst c8
        have H1 : (if x10_1 > 0 then (if 0 ≤ (wrap64 (x10_1 - 1)) then (if (wrap64 (x10_1 - 1)) < (l1.length : Int) then (q17z.j1 k1 l0 l1 x5_1 x10_1 (rd l0 x10_1) l0 (l0.length : Int) x10_1 (rdOf false l1 (wrap64 (x10_1 - 1)))) else (none)) else (none)) else (q17z.j1 k1 l0 l1 x5_1 x10_1 (rd l0 x10_1) l0 (l0.length : Int) x10_1 false)) = some r := by rw [if_pos rfl] at H; exact H
        clear H
        have H := H1
        clear H1
        have HC9 := Aside0.mk H
        clear H
        have p247 : 0 ≤ (x10_1 : Int) := of_decide_eq_true (by first | (with_reducible assumption) | assumption)
        have q247 : x10_1 < (l0.length : Int) := of_decide_eq_true (by first | (with_reducible assumption) | assumption)
        obtain ⟨ad247, e247, hx247_0⟩ := Kd.at_int HR0.out x10_1 p247 q247
        cases e247
        replace hx247_0 := (HB.out.cell (World.block_lt_of_cell? w _ hx247_0)).trans hx247_0
        replace p247 := eq_true p247
        replace q247 := eq_true q247
        have p248 : 0 ≤ (x10_1 : Int) := of_decide_eq_true (by first | (with_reducible assumption) | assumption)
        have q248 : x10_1 < (l1.length : Int) := of_decide_eq_true (by first | (with_reducible assumption) | assumption)
        obtain ⟨ad248, e248, hx248_0⟩ := Kd.at_bool HR1.out x10_1 p248 q248
        (try rw [← Nbq7.out] at hx248_0)
        cases e248
        replace hx248_0 := (HB.out.cell (World.block_lt_of_cell? w _ hx248_0)).trans hx248_0
        replace p248 := eq_true p248
        replace q248 := eq_true q248
        go_upto_region 6 with (fail)
        go_cut [28] (fun v28 wc => ∃ (kq : Nat) (x28_8 : Bool), v28 = .bool x28_8 ∧ Aside0 (q17z.j1 kq l0 l1 x5_1 x10_1 (rd l0 x10_1) l0 (l0.length : Int) x10_1 x28_8 = some r) ∧ Aside0 (kq ≤ k1) ∧ Aside0 (Kd.R k33 33 wc w.heap.size (fun _ => True) u5 x5_1) ∧ Aside0 (Below w.heap.size w wc))
        case first =>
         have H := HC9.out
         clear HC9
         by_cases c10 : x10_1 > 0
         ·
          rw [if_pos c10] at H
          have c10b0 : decide (0 < x10_1) = true := decide_eq_true c10
          clear c10
          (first | rw [c10b0] | (simp only [i64_w, i32_w, IntKind.wrap_u32]; rw [c10b0]) | skip)
          obtain ⟨ji11, hji11⟩ : ∃ j_ : Int, (wrap64 (x10_1 - 1)) = j_ := ⟨_, rfl⟩
          replace H : (if 0 ≤ (ji11) then (if (ji11) < (l1.length : Int) then (q17z.j1 k1 l0 l1 x5_1 x10_1 (rd l0 x10_1) l0 (l0.length : Int) x10_1 (rdOf false l1 (ji11))) else (none)) else (none)) = some r := by first | (rw [hji11] at H; exact H) | (simp only [hji11] at H ⊢; exact H)
          have hji11w : (IntKind.i64.wrap (x10_1 - 1)) = ji11 := (i64_w _).trans hji11
          by_cases c12 : 0 ≤ (ji11)
          ·
           rw [if_pos c12] at H
           have c12b0 : decide (0 ≤ (ji11)) = true := decide_eq_true c12
           clear c12
           by_cases c13 : (ji11) < (l1.length : Int)
           ·
            rw [if_pos c13] at H
            have c13b0 : decide ((ji11) < (l1.length : Int)) = true := decide_eq_true c13
            clear c13
            have H' := Aside0.mk H
            clear H
            have p249 : 0 ≤ ((ji11) : Int) := of_decide_eq_true (by first | (with_reducible assumption) | assumption)
            have q249 : (ji11) < (l1.length : Int) := of_decide_eq_true (by first | (with_reducible assumption) | assumption)
            obtain ⟨ad249, e249, hx249_0⟩ := Kd.at_bool HR1.out (ji11) p249 q249
            (try rw [← Nbq7.out] at hx249_0)
            obtain rfl : ad248 = ad249 := (by injection e249)
            replace hx249_0 := (HB.out.cell (World.block_lt_of_cell? w _ hx249_0)).trans hx249_0
            replace p249 := eq_true p249
            replace q249 := eq_true q249
            go_wp2
            go_meet
            case rel => exact ⟨_, (rdOf false l1 (ji11)), (by first | rfl | (simp; done) | (simp only [← hji11] <;> (first | rfl | simp)) | (simp [*]; done)), H', ⟨by have := HK1.out; first | omega | exact Nat.le_refl _⟩, ⟨by (with_reducible repeat (first | apply Kd.R_alloc | apply Kd.R_drewN | apply Kd.R_drew)); exact HO_5.out⟩, ⟨by repeat (first | (with_reducible first | exact HB.out | apply below_alloc | apply pw_below_drewN | apply below_drew1) | exact HB.out)⟩⟩
           ·
            rw [if_neg c13] at H
            exact absurd H (by simp)
          ·
           rw [if_neg c12] at H
           exact absurd H (by simp)
         ·
          rw [if_neg c10] at H
          have c10b0 : decide (0 < x10_1) = false := decide_eq_false c10
          clear c10
          (first | rw [c10b0] | (simp only [i64_w, i32_w, IntKind.wrap_u32]; rw [c10b0]) | skip)
          have H' := Aside0.mk H
          clear H
          go_wp2
          go_meet
          case rel => exact ⟨_, (false), (by first | rfl | (simp; done) | (simp [*]; done)), H', ⟨by have := HK1.out; first | omega | exact Nat.le_refl _⟩, ⟨by (with_reducible repeat (first | apply Kd.R_alloc | apply Kd.R_drewN | apply Kd.R_drew)); exact HO_5.out⟩, ⟨by repeat (first | (with_reducible first | exact HB.out | apply below_alloc | apply pw_below_drewN | apply below_drew1) | exact HB.out)⟩⟩
        case rest =>
         clear HC9
         try clear c1
         try clear p2
         try clear q2
         try clear hx2
         try clear c3
         try clear c3b0
         try clear c4
         try clear c4b0
         try clear c5
         try clear c5b0
         try clear c6
         try clear c6b0
         try clear p6
         try clear q7
         try clear c8
         try clear c10
         try clear c10b0
         try clear c12
         try clear c12b0
         try clear c13
         try clear c13b0
         try clear hx247_0
         try clear hx248_0
         try clear hx249_0
         try clear p2
         try clear p247
         try clear p248
         try clear p249
         try clear q247
         try clear q248
         try clear q249
         obtain ⟨kq, x28_8, rfl, HA, HJ8, HO_5, HB⟩ := hcut
         cases kq with
         | zero => exact absurd HA.out (by simp [q17z.j1])
         | succ kj8 =>
          have H := HA.out
          clear HA
          simp only [q17z.j1] at H
          by_cases c14 : x28_8 = true
          ·
           subst c14
           have H1 : ((q16z.f l0 x10_1).bind fun t250 => (if 0 ≤ (wrap64 ((x5_1.length : Int) - 1)) then (if (wrap64 ((x5_1.length : Int) - 1)) < (x5_1.length : Int) then (q17z.l0 kj8 l0 l1 (x5_1.set ((wrap64 ((x5_1.length : Int) - 1)) : Int).toNat (⟨(rd_T33 x5_1 (wrap64 ((x5_1.length : Int) - 1))).f0, t250⟩ : S33)) l0 (l0.length : Int) (wrap64 (x10_1 + 1))) else (none)) else (none))) = some r := by rw [if_pos rfl] at H; exact H
           clear H
           have H := H1
           clear H1
           replace H := Option.bind_eq_some_iff.mp H
           obtain ⟨t250, A150, H⟩ := H
           replace H : (if 0 ≤ (wrap64 ((x5_1.length : Int) - 1)) then (if (wrap64 ((x5_1.length : Int) - 1)) < (x5_1.length : Int) then (q17z.l0 kj8 l0 l1 (x5_1.set ((wrap64 ((x5_1.length : Int) - 1)) : Int).toNat (⟨(rd_T33 x5_1 (wrap64 ((x5_1.length : Int) - 1))).f0, t250⟩ : S33)) l0 (l0.length : Int) (wrap64 (x10_1 + 1))) else (none)) else (none)) = some r := H
           have A15 := Aside0.mk A150
           clear A150
           obtain ⟨ji16, hji16⟩ : ∃ j_ : Int, (wrap64 ((x5_1.length : Int) - 1)) = j_ := ⟨_, rfl⟩
           replace H : (if 0 ≤ (ji16) then (if (ji16) < (x5_1.length : Int) then (q17z.l0 kj8 l0 l1 (x5_1.set ((ji16) : Int).toNat (⟨(rd_T33 x5_1 (ji16)).f0, t250⟩ : S33)) l0 (l0.length : Int) (wrap64 (x10_1 + 1))) else (none)) else (none)) = some r := by first | (rw [hji16] at H; exact H) | (simp only [hji16] at H ⊢; exact H)
           (try rw [hji16] at A15)
           have hji16w : (IntKind.i64.wrap ((x5_1.length : Int) - 1)) = ji16 := (i64_w _).trans hji16
           by_cases c17 : 0 ≤ (ji16)
           ·
            rw [if_pos c17] at H
            have c17b0 : decide (0 ≤ (ji16)) = true := decide_eq_true c17
            clear c17
            by_cases c18 : (ji16) < (x5_1.length : Int)
            ·
             rw [if_pos c18] at H
             have c18b0 : decide ((ji16) < (x5_1.length : Int)) = true := decide_eq_true c18
             clear c18
             obtain ⟨y251, hy251⟩ : ∃ y_ : List (S33), y_ = (x5_1.set ((ji16) : Int).toNat (⟨(rd_T33 x5_1 (ji16)).f0, t250⟩ : S33)) := ⟨_, rfl⟩
             replace H : (q17z.l0 kj8 l0 l1 y251 l0 (l0.length : Int) (wrap64 (x10_1 + 1))) = some r := by first | (rw [hy251]; with_reducible exact H) | (have H2_ := (Option.bind_some _ _).symm.trans H; rw [hy251]; with_reducible exact H2_) | (have H2_ := (Option.bind_some _ _).symm.trans H; with_reducible exact H2_) | with_reducible exact H | (rw [hy251]; exact H) | exact H
             have Ny251 := Aside0.mk hy251
             clear hy251
             have H' := Aside0.mk H
             clear H
             obtain ⟨Ao20, co20, eo20⟩ := Kd.R_slice HO_5.out
             subst eo20
             go_wp2_with (first | ((with_reducible refine gate_callee (f := 25) rfl ?_); refine goesL_ (some 35) rfl rfl Try.func25 (by kernel_rfl) rfl #[.slice (some ad247) l0.length c0, .int .i64 x10_1] rfl (by (try simp only [List.map_toArray, List.map_cons, List.map_nil]); first | done | rfl | (simp only [List.length_drop, List.length_take]; rfl)) ?_; (with_reducible refine (q16z.calls _ _ l0 x10_1 t250 _ ?side1 ?side2 A15.out).mono ?_); (case side1 => repeat (first | exact (Kd.C_below HR0.out HB.out) | (with_reducible refine Kd.C_alloc ?_ _) | (with_reducible refine Kd.C_drewN ?_ _) | (with_reducible refine Kd.C_drew ?_))); (case side2 => exact HC0.out); rintro e w' ⟨rfl, ⟨nd, rfl⟩⟩; refine ⟨_, rfl, ?_⟩; (try (rw [drewN_self wc]; generalize hq_ : World.drewN wc _ = wc; have n0_ : Aside0 (Kd.R k33 33 wc w.heap.size (fun _ => True) (.slice Ao20 x5_1.length co20) x5_1) := ⟨by rw [← hq_]; exact (by (with_reducible repeat (first | apply Kd.R_alloc | apply Kd.R_drewN | apply Kd.R_drew)); exact HO_5.out)⟩; have n1_ : Aside0 (Below w.heap.size w wc) := ⟨by rw [← hq_]; exact (by repeat (first | (with_reducible first | exact HB.out | apply below_alloc | apply pw_below_drewN | apply below_drew1) | exact HB.out))⟩; clear HO_5 HB hq_; have HO_5 := n0_; have HB := n1_; clear n0_ n1_)); have p19 : 0 ≤ ((ji16) : Int) := of_decide_eq_true (by first | (with_reducible assumption) | assumption); have q19 : ((ji16) : Int) < ((x5_1.length : Int) : Int) := of_decide_eq_true (by first | (with_reducible assumption) | assumption); obtain ⟨go19, co19, eo19, gb19, gl19, cl19, HG19⟩ := Kd.R_form HO_5.out (by omega); (first | cases eo19 | (injection eo19 with ea_ en_ ec_; (first | subst ea_ | (injection ea_ with ea_; subst ea_)); subst ec_; clear en_)); have GB19 := Aside0.mk gb19; have GG19 := Aside0.mk HG19; clear gb19 gl19 HG19; obtain ⟨ce19, hcl19, hM19, hcc19, hfr19⟩ := Kd.R_elem HO_5.out z33 ((ji16) : Int) p19 q19; obtain rfl := k33_openM hM19; have hx19_0 : wc.cell? ⟨go19, ((ji16) : Int).toNat * 2, none⟩ = some (.int .u32 ((rd_T33 x5_1 (ji16)).f0)) := hcc19 0 _ rfl; have hx19_1 : wc.cell? ⟨go19, ((ji16) : Int).toNat * 2 + 1, none⟩ = some (.int .u32 ((rd_T33 x5_1 (ji16)).f1)) := hcc19 1 _ rfl; have hf19_0 : wc.frozen? ⟨go19, ((ji16) : Int).toNat * 2, none⟩ = false := hfr19 0; have hf19_1 : wc.frozen? ⟨go19, ((ji16) : Int).toNat * 2 + 1, none⟩ = false := hfr19 1; clear hcl19 hcc19 hfr19 hM19; replace p19 := eq_true p19; replace q19 := eq_true q19; have HX21 := Aside0.mk (show Kd.R k33 33 wc w.heap.size (fun _ => True) (.slice (some ⟨go19, 0, none⟩) x5_1.length co20) x5_1 from (by (with_reducible repeat (first | apply Kd.R_alloc | apply Kd.R_drewN | apply Kd.R_drew)); exact HO_5.out)); obtain ⟨ce21, hcl21, hM21, hcc21, hfr21⟩ := Kd.R_elem HX21.out z33 ((ji16) : Int) (of_decide_eq_true (by first | (with_reducible assumption) | assumption)) (by have h_ : ((ji16) : Int) < ((x5_1.length : Int) : Int) := of_decide_eq_true (by first | (with_reducible assumption) | assumption); first | exact h_ | (have e_ := (Kd.R_reads' HO_5.out).1; omega) | simpa using h_); obtain rfl := k33_openM hM21; have HP21 := Kd.R_seg HX21.out ((ji16) : Int) (of_decide_eq_true (by first | (with_reducible assumption) | assumption)) (by have h_ : ((ji16) : Int) < ((x5_1.length : Int) : Int) := of_decide_eq_true (by first | (with_reducible assumption) | assumption); first | exact h_ | (have e_ := (Kd.R_reads' HO_5.out).1; omega) | simpa using h_) (seg := [.int .u32 t250]) (j := 1) hcl21 hcc21 (show 2 ≤ 2 from by decide) (x' := (⟨(rd_T33 x5_1 (ji16)).f0, t250⟩ : S33)) (k33_mkM _ _ _ (⟨(rd_T33 x5_1 (ji16)).f0, t250⟩ : S33) ) (fun _ hk => hk); have hx21_1 := hcc21 1 _ rfl; (try simp only [show (k33).sz = 2 from rfl, Nat.mul_one, Nat.add_zero] at hx21_1); have hf21_1 := hfr21 1; (try simp only [show (k33).sz = 2 from rfl, Nat.mul_one, Nat.add_zero] at hf21_1); clear hcl21 hcc21 hfr21 hM21) | ((with_reducible refine gate_store (t := 29) (p := 37) rfl ?_); refine store_event (t := 29) (p := 37) (v := ?vo_w22) (w1 := (wc.setCell ⟨go19, ((ji16) : Int).toNat * 2 + 1, none⟩ (.int .u32 t250))) ?hg ?ho ?hn ?hr ?_; (case ho => rfl); (case hg => rfl); (case hn => rfl); (case hr => first | (go_simp; done) | (go_simp; rfl)); intro w22 hw; have hg : wc.grownBy w22 (some go19) := (by rw [hw]; exact HP21.2); have hp_ : Kd.R k33 33 w22 w.heap.size (fun _ => True) (.slice (some ⟨go19, 0, none⟩) x5_1.length co20) y251 := (by rw [hw, Ny251.out]; exact HP21.1); clear HP21; have n0_ := Aside0.mk (hp_); have n1_ := Aside0.mk ((by rw [hw]; exact below_set (HB.out) GB19.out : Below w.heap.size w w22)); clear HO_5; clear HB; have HO_5 := n0_; have HB := n1_; clear n0_ n1_; clear hg hw hp_))
             go_roundg kj8
             case measure => have := HK1.out; have := HJ8.out; omega
             case rel => exact ⟨(y251), (wrap64 (x10_1 + 1)), (by first | rfl | (simp; done) | (simp [*]; done)), H', ⟨by have := HK1.out; have := HJ8.out; omega⟩, ⟨by (with_reducible repeat (first | apply Kd.R_alloc | apply Kd.R_drewN | apply Kd.R_drew)); exact HO_5.out⟩, ⟨by repeat (first | (with_reducible first | exact HB.out | apply below_alloc | apply pw_below_drewN | apply below_drew1) | exact HB.out)⟩⟩
            ·
             rw [if_neg c18] at H
             exact absurd H (by simp)
           ·
            rw [if_neg c17] at H
            exact absurd H (by simp)
          ·
           replace c14 := Bool.eq_false_iff.mpr c14
           subst c14
           have H1 : ((q16z.f l0 x10_1).bind fun t252 => (if x5_1.length < 17592186044416 then (q17z.l0 kj8 l0 l1 (x5_1 ++ [(⟨(rd l0 x10_1), t252⟩ : S33)]) l0 (l0.length : Int) (wrap64 (x10_1 + 1))) else (none))) = some r := by rw [if_neg (show ¬ (false = true) by decide)] at H; exact H
           clear H
           have H := H1
           clear H1
           replace H := Option.bind_eq_some_iff.mp H
           obtain ⟨t252, A230, H⟩ := H
           replace H : (if x5_1.length < 17592186044416 then (q17z.l0 kj8 l0 l1 (x5_1 ++ [(⟨(rd l0 x10_1), t252⟩ : S33)]) l0 (l0.length : Int) (wrap64 (x10_1 + 1))) else (none)) = some r := H
           have A23 := Aside0.mk A230
           clear A230
           by_cases c24 : x5_1.length < 17592186044416
           ·
            rw [if_pos c24] at H
            have LMc24 := Aside0.mk c24
            clear c24
            obtain ⟨y253, hy253⟩ : ∃ y_ : List (S33), y_ = (x5_1 ++ [(⟨(rd l0 x10_1), t252⟩ : S33)]) := ⟨_, rfl⟩
            replace H : (q17z.l0 kj8 l0 l1 y253 l0 (l0.length : Int) (wrap64 (x10_1 + 1))) = some r := by first | (rw [hy253]; with_reducible exact H) | (have H2_ := (Option.bind_some _ _).symm.trans H; rw [hy253]; with_reducible exact H2_) | (have H2_ := (Option.bind_some _ _).symm.trans H; with_reducible exact H2_) | with_reducible exact H | (rw [hy253]; exact H) | exact H
            have Ny253 := Aside0.mk hy253
            clear hy253
            have H' := Aside0.mk H
            clear H
            go_wp2_with (first | ((with_reducible refine gate_callee (f := 25) rfl ?_); refine goesL_ (some 42) rfl rfl Try.func25 (by kernel_rfl) rfl #[.slice (some ad247) l0.length c0, .int .i64 x10_1] rfl (by (try simp only [List.map_toArray, List.map_cons, List.map_nil]); first | done | rfl | (simp only [List.length_drop, List.length_take]; rfl)) ?_; (with_reducible refine (q16z.calls _ _ l0 x10_1 t252 _ ?side1 ?side2 A23.out).mono ?_); (case side1 => repeat (first | exact (Kd.C_below HR0.out HB.out) | (with_reducible refine Kd.C_alloc ?_ _) | (with_reducible refine Kd.C_drewN ?_ _) | (with_reducible refine Kd.C_drew ?_))); (case side2 => exact HC0.out); rintro e w' ⟨rfl, ⟨nd, rfl⟩⟩; refine ⟨_, rfl, ?_⟩) | ((with_reducible refine gate_builtin (b := .append) (xs := #[.tmp 38, .tmp 44]) rfl ?_); at_builtin; refine Kd.R_append k33 (w0 := w) w.heap.size rfl (.tmp 38) (.tmp 44) 24 33 (.agg #[(.int .u32 0), (.int .u32 0)]) 8 rfl Try.underlying24 info33 rfl (by decide) (by omega) u5 x5_1 (⟨(rd l0 x10_1), t252⟩ : S33) [.int .u32 (rd l0 x10_1), .int .u32 t252] (fun _ => True) (fun _ => False) rfl rfl ?aP (fun _ hk => hk.elim) ?aF ?aO ?aB ?aS ?aL ?_; (case aP => exact k33_mkM _ _ _ (⟨(rd l0 x10_1), t252⟩ : S33)); (case aB => exact (by repeat (first | (with_reducible first | exact HB.out | apply below_alloc | apply pw_below_drewN | apply below_drew1) | exact HB.out))); (case aF => exact (fun _ _ => trivial)); (case aO => exact (by (with_reducible repeat (first | apply Kd.R_alloc | apply Kd.R_drewN | apply Kd.R_drew)); exact HO_5.out)); (case aS => exact (below_size (by repeat (first | (with_reducible first | exact HB.out | apply below_alloc | apply pw_below_drewN | apply below_drew1) | exact HB.out)))); (case aL => have := LMc24.out; omega); intro v254 w25 ho hb hg hat; rw [← Ny253.out] at ho; have n0_ := Aside0.mk (hb); have n1_ := Aside0.mk (ho); clear HB; clear HO_5; have HB := n0_; have HO255 := n1_; clear n0_ n1_; clear ho hb hg hat))
            go_roundg kj8
            case measure => have := HK1.out; have := HJ8.out; omega
            case rel => exact ⟨(y253), (wrap64 (x10_1 + 1)), (by first | rfl | (simp; done) | (simp [*]; done)), H', ⟨by have := HK1.out; have := HJ8.out; omega⟩, ⟨by (with_reducible repeat (first | apply Kd.R_alloc | apply Kd.R_drewN | apply Kd.R_drew)); exact HO255.out⟩, ⟨by repeat (first | (with_reducible first | exact HB.out | apply below_alloc | apply pw_below_drewN | apply below_drew1) | exact HB.out)⟩⟩
           ·
            rw [if_neg c24] at H
            exact absurd H (by simp)
       ·
        replace c8 := Bool.eq_false_iff.mpr c8
        subst c8
        have H1 : (q17z.l0 k1 l0 l1 x5_1 l0 (l0.length : Int) (wrap64 (x10_1 + 1))) = some r := by rw [if_neg (show ¬ (false = true) by decide)] at H; exact H
        clear H
        have H := H1
        clear H1
        have H' := Aside0.mk H
        clear H
        have p247 : 0 ≤ (x10_1 : Int) := of_decide_eq_true (by first | (with_reducible assumption) | assumption)
        have q247 : x10_1 < (l0.length : Int) := of_decide_eq_true (by first | (with_reducible assumption) | assumption)
        obtain ⟨ad247, e247, hx247_0⟩ := Kd.at_int HR0.out x10_1 p247 q247
        cases e247
        replace hx247_0 := (HB.out.cell (World.block_lt_of_cell? w _ hx247_0)).trans hx247_0
        replace p247 := eq_true p247
        replace q247 := eq_true q247
        have p248 : 0 ≤ (x10_1 : Int) := of_decide_eq_true (by first | (with_reducible assumption) | assumption)
        have q248 : x10_1 < (l1.length : Int) := of_decide_eq_true (by first | (with_reducible assumption) | assumption)
        obtain ⟨ad248, e248, hx248_0⟩ := Kd.at_bool HR1.out x10_1 p248 q248
        (try rw [← Nbq7.out] at hx248_0)
        cases e248
        replace hx248_0 := (HB.out.cell (World.block_lt_of_cell? w _ hx248_0)).trans hx248_0
        replace p248 := eq_true p248
        replace q248 := eq_true q248
        go_wp2
        go_roundg k1
        case measure => have := HK1.out; omega
        case rel => exact ⟨(x5_1), (wrap64 (x10_1 + 1)), (by first | rfl | (simp; done) | (simp [*]; done)), H', ⟨by have := HK1.out; omega⟩, ⟨by (with_reducible repeat (first | apply Kd.R_alloc | apply Kd.R_drewN | apply Kd.R_drew)); exact HO_5.out⟩, ⟨by repeat (first | (with_reducible first | exact HB.out | apply below_alloc | apply pw_below_drewN | apply below_drew1) | exact HB.out)⟩⟩
      ·
       rw [if_neg c6] at H
       exact absurd H (by simp)
     ·
      rw [if_neg c5] at H
      exact absurd H (by simp)
    ·
     rw [if_neg c4] at H
     exact absurd H (by simp)
   ·
    rw [if_neg c3] at H
    have c3b0 : decide (x10_1 < (l0.length : Int)) = false := decide_eq_false c3
    clear c3
    obtain rfl := Option.some.inj H
    go_wp2
    go_ret
    exact ⟨_, by first | rfl | (simp [errW_none, errW_some] <;> rfl) | (simp [*, errW_none, errW_some] <;> rfl), by (with_reducible repeat (first | apply Kd.R_alloc | apply Kd.R_drewN | apply Kd.R_drew)); exact HO_5.out, by repeat (first | (with_reducible first | exact HB.out | apply below_alloc | apply pw_below_drewN | apply below_drew1) | exact HB.out)⟩

end Go.Proofs.Ytconaifcjnpabaa.P

namespace Go.Proofs.Ytconaifcjnpabaa.P
open Go.RowKit Go.Proofs.YtconaifcjnpabaaW.PrintWords Go.Proofs.YtconaifcjnpabaaW.PrintLast Go.Proofs.YtconaifcjnpabaaW.PrintMore
attribute [local go_sem] max2_int min2_int max_two min_two max_three min_three max_four min_four
set_option linter.unusedVariables false
set_option linter.unusedSimpArgs false

/-! ### dragomanref01_Set: function 20 -/
def q18z.l0 : Nat → Int → List (S33) → List (S33) → List Int → List Bool → List Int → Int → Int → Option ((List (S33)))
 | 0, _, _, _, _, _, _, _, _ => none
 | k + 1, x0, x1, x2, x7, x8, x17, x18, x19 => if x19 < x18 then (if 0 ≤ x19 then (if x19 < (x17.length : Int) then ((q12z.f k x1 (rd x17 x19)).bind fun t263 => ((q12z.f k x2 (rd x17 x19)).bind fun t264 => (if x0 = 1 then (if t263 = true then (if x8.length < 140737488355328 then (q18z.l0 k x0 x1 x2 x7 (x8 ++ [true]) x17 x18 (wrap64 (x19 + 1))) else (none)) else (if t264 = true then (if x8.length < 140737488355328 then (q18z.l0 k x0 x1 x2 x7 (x8 ++ [true]) x17 x18 (wrap64 (x19 + 1))) else (none)) else (if x0 = 2 then (if x0 = 3 then (if x8.length < 140737488355328 then (q18z.l0 k x0 x1 x2 x7 (x8 ++ [!t263]) x17 x18 (wrap64 (x19 + 1))) else (none)) else (if x8.length < 140737488355328 then (q18z.l0 k x0 x1 x2 x7 (x8 ++ [false]) x17 x18 (wrap64 (x19 + 1))) else (none))) else (if x0 = 3 then (if x8.length < 140737488355328 then (q18z.l0 k x0 x1 x2 x7 (x8 ++ [!t263]) x17 x18 (wrap64 (x19 + 1))) else (none)) else (if x8.length < 140737488355328 then (q18z.l0 k x0 x1 x2 x7 (x8 ++ [false]) x17 x18 (wrap64 (x19 + 1))) else (none)))))) else (if x0 = 2 then (if t263 = true then (if t264 = true then (if x8.length < 140737488355328 then (q18z.l0 k x0 x1 x2 x7 (x8 ++ [true]) x17 x18 (wrap64 (x19 + 1))) else (none)) else (if x0 = 3 then (if x8.length < 140737488355328 then (q18z.l0 k x0 x1 x2 x7 (x8 ++ [!t263]) x17 x18 (wrap64 (x19 + 1))) else (none)) else (if x8.length < 140737488355328 then (q18z.l0 k x0 x1 x2 x7 (x8 ++ [false]) x17 x18 (wrap64 (x19 + 1))) else (none)))) else (if x0 = 3 then (if x8.length < 140737488355328 then (q18z.l0 k x0 x1 x2 x7 (x8 ++ [!t263]) x17 x18 (wrap64 (x19 + 1))) else (none)) else (if x8.length < 140737488355328 then (q18z.l0 k x0 x1 x2 x7 (x8 ++ [false]) x17 x18 (wrap64 (x19 + 1))) else (none)))) else (if x0 = 3 then (if x8.length < 140737488355328 then (q18z.l0 k x0 x1 x2 x7 (x8 ++ [!t263]) x17 x18 (wrap64 (x19 + 1))) else (none)) else (if x8.length < 140737488355328 then (q18z.l0 k x0 x1 x2 x7 (x8 ++ [false]) x17 x18 (wrap64 (x19 + 1))) else (none))))))) else (none)) else (none)) else ((q17z.f k x7 x8).bind fun t304 => (some t304))
def q18z.f (k : Nat) (a0 : Int) (l1 : List (S33)) (l2 : List (S33)) : Option ((List (S33))) := (q15z.f k (([l1, l2] : List (List (S33))))).bind fun t259 => (q18z.l0 k a0 l1 l2 t259 ([] : List Bool) t259 (t259.length : Int) 0)
theorem q18z.mono_l : ∀ k, (∀ y0 y1 y2 y3 y4 y5 y6 y7, LeO (q18z.l0 k y0 y1 y2 y3 y4 y5 y6 y7) (q18z.l0 (k + 1) y0 y1 y2 y3 y4 y5 y6 y7))
 | 0 => fun _ _ _ _ _ _ _ _ r h => by simp [q18z.l0] at h
 | k + 1 => by
  have ih0 := q18z.mono_l k
  ·
   intro y0 y1 y2 y3 y4 y5 y6 y7
   unfold q18z.l0
   repeat' first
   | (with_reducible exact ih0 _ _ _ _ _ _ _ _)
   | (with_reducible exact q12z.mono _ _ _)
   | (with_reducible exact q15z.mono _ _)
   | (with_reducible exact q17z.mono _ _ _)
   | (with_reducible exact LeO.refl _)
   | (with_reducible exact LeO.none _)
   | (with_reducible refine LeO.ite ?_ ?_)
   | (with_reducible refine LeO.bind ?_ (fun _ => ?_))
   | exact ih0 _ _ _ _ _ _ _ _
   | exact q12z.mono _ _ _
   | exact q15z.mono _ _
   | exact q17z.mono _ _ _
   | exact LeO.none _
   | refine LeO.ite ?_ ?_
   | refine LeO.bind ?_ (fun _ => ?_)
theorem q18z.mono : ∀ a0 a1 a2 k, LeO (q18z.f k a0 a1 a2) (q18z.f (k + 1) a0 a1 a2) := by
 intro a0 a1 a2 k
 have ih0 := q18z.mono_l k
 unfold q18z.f
 repeat' first
   | (with_reducible exact ih0 _ _ _ _ _ _ _ _)
   | (with_reducible exact q12z.mono _ _ _)
   | (with_reducible exact q15z.mono _ _)
   | (with_reducible exact q17z.mono _ _ _)
   | (with_reducible exact LeO.refl _)
   | (with_reducible exact LeO.none _)
   | (with_reducible refine LeO.ite ?_ ?_)
   | (with_reducible refine LeO.bind ?_ (fun _ => ?_))
   | exact ih0 _ _ _ _ _ _ _ _
   | exact q12z.mono _ _ _
   | exact q15z.mono _ _
   | exact q17z.mono _ _ _
   | exact LeO.none _
   | refine LeO.ite ?_ ?_
   | refine LeO.bind ?_ (fun _ => ?_)
set_option maxHeartbeats 8000000 in
set_option maxRecDepth 100000 in
theorem q18z.calls (k : Nat) (a0 : Int) (P1_ : Nat → Prop) (A1 : Option Addr) (c1 : Nat) (l1 : List (S33)) (P2_ : Nat → Prop) (A2 : Option Addr) (c2 : Nat) (l2 : List (S33)) (r : List (S33)) (w : World) (hs1 : Kd.V k33 33 w w.heap.size (fun k_ => P1_ k_) (.slice A1 l1.length c1) l1) (hs2 : Kd.V k33 33 w w.heap.size (fun k_ => P2_ k_) (.slice A2 l2.length c2) l2) (h : q18z.f k a0 l1 l2 = some r) :
  Calls Try.prog 20 #[.int .i64 a0, .slice A1 l1.length c1, .slice A2 l2.length c2] w fun e w' => ∃ v0_ : Value, e = .returned (v0_) ∧ Kd.R k33 33 w' w.heap.size (fun k_ => (w.heap.size ≤ k_)) v0_ r ∧ Below w.heap.size w w' := by
 have HO1 := Aside0.mk (show Kd.V k33 33 w w.heap.size (fun k_ => ((P1_ k_ ∨ P2_ k_) ∨ w.heap.size ≤ k_)) (.slice A1 l1.length c1) l1 from Kd.V_mono hs1 (fun k_ hk => .inl (.inl hk)))
 have HO2 := Aside0.mk (show Kd.V k33 33 w w.heap.size (fun k_ => ((P1_ k_ ∨ P2_ k_) ∨ w.heap.size ≤ k_)) (.slice A2 l2.length c2) l2 from Kd.V_mono hs2 (fun k_ hk => .inl (.inr hk)))
 have HB := Aside0.mk (Below.refl w.heap.size w)
 have H : ((q15z.f k (([l1, l2] : List (List (S33))))).bind fun t259 => (q18z.l0 k a0 l1 l2 t259 ([] : List Bool) t259 (t259.length : Int) 0)) = some r := h
 clear h
 obtain ⟨y256, hy256⟩ : ∃ y_ : List (List (S33)), y_ = (([l1, l2] : List (List (S33)))) := ⟨_, rfl⟩
 replace H : ((q15z.f k y256).bind fun t259 => (q18z.l0 k a0 l1 l2 t259 ([] : List Bool) t259 (t259.length : Int) 0)) = some r := by first | (rw [hy256]; with_reducible exact H) | (have H2_ := (Option.bind_some _ _).symm.trans H; rw [hy256]; with_reducible exact H2_) | (have H2_ := (Option.bind_some _ _).symm.trans H; with_reducible exact H2_) | with_reducible exact H | (rw [hy256]; exact H) | exact H
 have Ny256 := Aside0.mk hy256
 clear hy256
 replace H := Option.bind_eq_some_iff.mp H
 obtain ⟨t259, A40, H⟩ := H
 replace H : (q18z.l0 k a0 l1 l2 t259 ([] : List Bool) t259 (t259.length : Int) 0) = some r := H
 have A4 := Aside0.mk A40
 clear A40
 have H' := Aside0.mk H
 clear H
 go_enter Try.func20, Try.ntmps20
 go_wp2_with (first | ((with_reducible refine gate_dst (N := 15) rfl ?_); refine Kd.N_lit (Kd.slice 33 k33) _ 24 ?hg (N' := 15) ?hd (xs := ([l1, l2] : List (List (S33)))) (inner := [.slice A1 l1.length c1, .slice A2 l2.length c2]) (ok := (fun k_ => ((P1_ k_ ∨ P2_ k_) ∨ w.heap.size ≤ k_))) (okp := (fun k_ => ((P1_ k_ ∨ P2_ k_) ∨ w.heap.size ≤ k_))) ?hr ?hp (fun _ hk => hk) ((show ∀ k_, w.heap.size ≤ k_ → (fun k_ => ((P1_ k_ ∨ P2_ k_) ∨ w.heap.size ≤ k_)) k_ from fun k_ hk => (.inr (Nat.le_trans (below_size (by repeat (first | (with_reducible first | exact HB.out | apply below_alloc | apply pw_below_drewN | apply below_drew1) | exact HB.out))) hk))) _ (Nat.le_refl _)) (Below.refl _ _) (Nat.le_refl _) (by simp) ?_; (case hd => rfl); (case hg => rfl); (case hr => first | (go_simp; done) | (go_simp; rfl)); (case hp => exact (Reps.one (show Kd.FK (Kd.slice 33 k33) _ _ l1 [.slice A1 l1.length c1] from (Kd.FK_slice_mk (Kd.V_reads' (Kd.V_mono (ok' := (fun k_ => ((P1_ k_ ∨ P2_ k_) ∨ w.heap.size ≤ k_))) (HO1.out) (fun k_ hk => hk))).2.1 (Kd.V_F (Kd.V_mono (ok' := (fun k_ => ((P1_ k_ ∨ P2_ k_) ∨ w.heap.size ≤ k_))) (HO1.out) (fun k_ hk => hk))))) (Reps.one (show Kd.FK (Kd.slice 33 k33) _ _ l2 [.slice A2 l2.length c2] from (Kd.FK_slice_mk (Kd.V_reads' (Kd.V_mono (ok' := (fun k_ => ((P1_ k_ ∨ P2_ k_) ∨ w.heap.size ≤ k_))) (HO2.out) (fun k_ hk => hk))).2.1 (Kd.V_F (Kd.V_mono (ok' := (fun k_ => ((P1_ k_ ∨ P2_ k_) ∨ w.heap.size ≤ k_))) (HO2.out) (fun k_ hk => hk))))) (Reps.none _ _)))); intro v257 w5 ho6 hb hg_ hnew_; clear hg_ hnew_; (first | rw [← Ny256.out] at ho6 | (simp only [Int.reduceToNat] at ho6; rw [← Ny256.out] at ho6)); have n0_ := Aside0.mk (Kd.V_elder' (by (with_reducible repeat (first | apply Kd.V_alloc | apply Kd.V_drewN | apply Kd.V_drew)); exact HO1.out) (Kd.N_base ho6) hb); have n1_ := Aside0.mk (Kd.V_elder' (by (with_reducible repeat (first | apply Kd.V_alloc | apply Kd.V_drewN | apply Kd.V_drew)); exact HO2.out) (Kd.N_base ho6) hb); have n2_ := Aside0.mk (Kd.N_lower ho6 (below_size (by repeat (first | (with_reducible first | exact HB.out | apply below_alloc | apply pw_below_drewN | apply below_drew1) | exact HB.out)))); have n3_ := Aside0.mk (below_step (by repeat (first | (with_reducible first | exact HB.out | apply below_alloc | apply pw_below_drewN | apply below_drew1) | exact HB.out)) hb); clear HO1; clear HO2; clear HB; have HO1 := n0_; have HO2 := n1_; have HO258 := n2_; have HB := n3_; clear n0_ n1_ n2_ n3_; clear hb ho6; obtain ⟨Ao7, co7, eo7⟩ := Kd.N_slice HO258.out; subst eo7) | ((with_reducible refine gate_callee (f := 24) rfl ?_); refine goesL_ (some 16) rfl rfl Try.func24 (by kernel_rfl) rfl #[.slice Ao7 y256.length co7] rfl (by (try simp only [List.map_toArray, List.map_cons, List.map_nil]); first | done | rfl | (simp only [List.length_drop, List.length_take]; rfl)) ?_; (with_reducible refine (q15z.calls k _ _ y256 t259 _ ?side1 ?side2 A4.out).mono ?_); (case side1 => repeat (first | exact (Kd.N_reads' HO258.out).2.2 | (with_reducible refine Kd.C_alloc ?_ _) | (with_reducible refine Kd.C_drewN ?_ _) | (with_reducible refine Kd.C_drew ?_))); (case side2 => exact (Kd.N_reads' HO258.out).2.1); rintro e w8 ⟨v260, rfl, ho0, hb⟩; refine ⟨_, rfl, ?_⟩; have n0_ := Aside0.mk (Kd.V_elder' (by (with_reducible repeat (first | apply Kd.V_alloc | apply Kd.V_drewN | apply Kd.V_drew)); exact HO1.out) (Kd.R_base ho0) hb); have n1_ := Aside0.mk (Kd.V_elder' (by (with_reducible repeat (first | apply Kd.V_alloc | apply Kd.V_drewN | apply Kd.V_drew)); exact HO2.out) (Kd.R_base ho0) hb); have n2_ := Aside0.mk (Kd.N_elder' (by (with_reducible repeat (first | apply Kd.N_alloc | apply Kd.N_drewN | apply Kd.N_drew)); exact HO258.out) (Kd.R_base ho0) hb); have n3_ := Aside0.mk (Kd.R_lower (Kd.R_newM (M := fun k_ => (w.heap.size ≤ k_)) ho0 (below_size (by repeat (first | (with_reducible first | exact HB.out | apply below_alloc | apply pw_below_drewN | apply below_drew1) | exact HB.out))) (fun k_ h_ => h_)) (below_size (by repeat (first | (with_reducible first | exact HB.out | apply below_alloc | apply pw_below_drewN | apply below_drew1) | exact HB.out)))); have n4_ := Aside0.mk (below_step (by repeat (first | (with_reducible first | exact HB.out | apply below_alloc | apply pw_below_drewN | apply below_drew1) | exact HB.out)) hb); clear HO1; clear HO2; clear HO258; clear HB; have HO1 := n0_; have HO2 := n1_; have HO258 := n2_; have HO261 := n3_; have HB := n4_; clear n0_ n1_ n2_ n3_ n4_; (try clear hb); (try clear hb2); (try clear hk); (try clear hi); (try clear ho0); obtain ⟨Ao9, co9, eo9⟩ := Kd.R_slice HO261.out; subst eo9))
 go_loopg [8, 19] k (fun kq v8 v19 w' => ∃ (x8_1 : List Bool) (x19_1 : Int), v19 = .int .i64 x19_1 ∧ Aside0 (q18z.l0 kq a0 l1 l2 t259 x8_1 t259 (t259.length : Int) x19_1 = some r) ∧ Aside0 (kq ≤ k) ∧ Aside0 (Kd.V k33 33 w' w.heap.size (fun k_ => ((P1_ k_ ∨ P2_ k_) ∨ w.heap.size ≤ k_) ∧ some k_ ≠ ((.slice Ao9 t259.length co9) : Value).ownBlock ∧ some k_ ≠ (v8 : Value).ownBlock ∧ some k_ ≠ ((.slice Ao9 t259.length co9) : Value).ownBlock) (.slice A1 l1.length c1) l1) ∧ Aside0 (Kd.V k33 33 w' w.heap.size (fun k_ => ((P1_ k_ ∨ P2_ k_) ∨ w.heap.size ≤ k_) ∧ some k_ ≠ ((.slice Ao9 t259.length co9) : Value).ownBlock ∧ some k_ ≠ (v8 : Value).ownBlock ∧ some k_ ≠ ((.slice Ao9 t259.length co9) : Value).ownBlock) (.slice A2 l2.length c2) l2) ∧ Aside0 (Kd.R (Kd.int .u32) 29 w' w.heap.size (fun k_ => (w.heap.size ≤ k_)) (.slice Ao9 t259.length co9) t259) ∧ Aside0 (Kd.R Kd.bool 4 w' w.heap.size (fun k_ => (w.heap.size ≤ k_)) v8 x8_1) ∧ Aside0 (Kd.R (Kd.int .u32) 29 w' w.heap.size (fun k_ => (w.heap.size ≤ k_)) (.slice Ao9 t259.length co9) t259) ∧ Aside0 (Below w.heap.size w w'))
 case atStart => exact ⟨(([] : List Bool)), (0), (by first | rfl | (simp; done) | (simp [*]; done)), H', ⟨Nat.le_refl _⟩, ⟨by (with_reducible repeat (first | apply Kd.V_alloc | apply Kd.V_drewN | apply Kd.V_drew)); exact Kd.V_mono HO1.out (fun _ hk => ⟨hk.1.1, ⟨hk.2, ⟨(by simp [Value.ownBlock]), hk.2⟩⟩⟩)⟩, ⟨by (with_reducible repeat (first | apply Kd.V_alloc | apply Kd.V_drewN | apply Kd.V_drew)); exact Kd.V_mono HO2.out (fun _ hk => ⟨hk.1.1, ⟨hk.2, ⟨(by simp [Value.ownBlock]), hk.2⟩⟩⟩)⟩, ⟨by (with_reducible repeat (first | apply Kd.R_alloc | apply Kd.R_drewN | apply Kd.R_drew)); exact Kd.R_mono HO261.out (fun _ hk => hk.1)⟩, ⟨by first | exact Kd.R_nil _ _ _ _ _ | exact Kd.N_nil _ _ _ _ _ | exact Kd.V_nil _ _ _ _ _ | exact Kd.Q_nil _ _ _ _ _ | exact Kd.S_nil _ _ _ _ _⟩, ⟨by (with_reducible repeat (first | apply Kd.R_alloc | apply Kd.R_drewN | apply Kd.R_drew)); exact Kd.R_mono HO261.out (fun _ hk => hk.1)⟩, ⟨by repeat (first | (with_reducible first | exact HB.out | apply below_alloc | apply pw_below_drewN | apply below_drew1) | exact HB.out)⟩⟩
 case round =>
  clear H'
  try clear c1
  try clear c2
  try clear p2
  obtain ⟨x8_1, x19_1, rfl, HA, HK1, HO_1, HO_2, HO_7, HO_8, HO_17, HB⟩ := hrel
  cases gk with
  | zero => exact absurd HA.out (by simp [q18z.l0])
  | succ k1 =>
   have H := HA.out
   clear HA
   simp only [q18z.l0] at H
   by_cases c10 : x19_1 < (t259.length : Int)
   ·
    rw [if_pos c10] at H
    have c10b0 : decide (x19_1 < (t259.length : Int)) = true := decide_eq_true c10
    clear c10
    by_cases c11 : 0 ≤ x19_1
    ·
     rw [if_pos c11] at H
     have c11b0 : decide (0 ≤ x19_1) = true := decide_eq_true c11
     clear c11
     by_cases c12 : x19_1 < (t259.length : Int)
     ·
      rw [if_pos c12] at H
      have c12b0 : decide (x19_1 < (t259.length : Int)) = true := decide_eq_true c12
      clear c12
      replace H := Option.bind_eq_some_iff.mp H
      obtain ⟨t263, A130, H⟩ := H
      replace H : ((q12z.f k1 l2 (rd t259 x19_1)).bind fun t264 => (if a0 = 1 then (if t263 = true then (if x8_1.length < 140737488355328 then (q18z.l0 k1 a0 l1 l2 t259 (x8_1 ++ [true]) t259 (t259.length : Int) (wrap64 (x19_1 + 1))) else (none)) else (if t264 = true then (if x8_1.length < 140737488355328 then (q18z.l0 k1 a0 l1 l2 t259 (x8_1 ++ [true]) t259 (t259.length : Int) (wrap64 (x19_1 + 1))) else (none)) else (if a0 = 2 then (if a0 = 3 then (if x8_1.length < 140737488355328 then (q18z.l0 k1 a0 l1 l2 t259 (x8_1 ++ [!t263]) t259 (t259.length : Int) (wrap64 (x19_1 + 1))) else (none)) else (if x8_1.length < 140737488355328 then (q18z.l0 k1 a0 l1 l2 t259 (x8_1 ++ [false]) t259 (t259.length : Int) (wrap64 (x19_1 + 1))) else (none))) else (if a0 = 3 then (if x8_1.length < 140737488355328 then (q18z.l0 k1 a0 l1 l2 t259 (x8_1 ++ [!t263]) t259 (t259.length : Int) (wrap64 (x19_1 + 1))) else (none)) else (if x8_1.length < 140737488355328 then (q18z.l0 k1 a0 l1 l2 t259 (x8_1 ++ [false]) t259 (t259.length : Int) (wrap64 (x19_1 + 1))) else (none)))))) else (if a0 = 2 then (if t263 = true then (if t264 = true then (if x8_1.length < 140737488355328 then (q18z.l0 k1 a0 l1 l2 t259 (x8_1 ++ [true]) t259 (t259.length : Int) (wrap64 (x19_1 + 1))) else (none)) else (if a0 = 3 then (if x8_1.length < 140737488355328 then (q18z.l0 k1 a0 l1 l2 t259 (x8_1 ++ [!t263]) t259 (t259.length : Int) (wrap64 (x19_1 + 1))) else (none)) else (if x8_1.length < 140737488355328 then (q18z.l0 k1 a0 l1 l2 t259 (x8_1 ++ [false]) t259 (t259.length : Int) (wrap64 (x19_1 + 1))) else (none)))) else (if a0 = 3 then (if x8_1.length < 140737488355328 then (q18z.l0 k1 a0 l1 l2 t259 (x8_1 ++ [!t263]) t259 (t259.length : Int) (wrap64 (x19_1 + 1))) else (none)) else (if x8_1.length < 140737488355328 then (q18z.l0 k1 a0 l1 l2 t259 (x8_1 ++ [false]) t259 (t259.length : Int) (wrap64 (x19_1 + 1))) else (none)))) else (if a0 = 3 then (if x8_1.length < 140737488355328 then (q18z.l0 k1 a0 l1 l2 t259 (x8_1 ++ [!t263]) t259 (t259.length : Int) (wrap64 (x19_1 + 1))) else (none)) else (if x8_1.length < 140737488355328 then (q18z.l0 k1 a0 l1 l2 t259 (x8_1 ++ [false]) t259 (t259.length : Int) (wrap64 (x19_1 + 1))) else (none)))))) = some r := H
      have A13 := Aside0.mk A130
      clear A130
      replace H := Option.bind_eq_some_iff.mp H
      obtain ⟨t264, A140, H⟩ := H
      replace H : (if a0 = 1 then (if t263 = true then (if x8_1.length < 140737488355328 then (q18z.l0 k1 a0 l1 l2 t259 (x8_1 ++ [true]) t259 (t259.length : Int) (wrap64 (x19_1 + 1))) else (none)) else (if t264 = true then (if x8_1.length < 140737488355328 then (q18z.l0 k1 a0 l1 l2 t259 (x8_1 ++ [true]) t259 (t259.length : Int) (wrap64 (x19_1 + 1))) else (none)) else (if a0 = 2 then (if a0 = 3 then (if x8_1.length < 140737488355328 then (q18z.l0 k1 a0 l1 l2 t259 (x8_1 ++ [!t263]) t259 (t259.length : Int) (wrap64 (x19_1 + 1))) else (none)) else (if x8_1.length < 140737488355328 then (q18z.l0 k1 a0 l1 l2 t259 (x8_1 ++ [false]) t259 (t259.length : Int) (wrap64 (x19_1 + 1))) else (none))) else (if a0 = 3 then (if x8_1.length < 140737488355328 then (q18z.l0 k1 a0 l1 l2 t259 (x8_1 ++ [!t263]) t259 (t259.length : Int) (wrap64 (x19_1 + 1))) else (none)) else (if x8_1.length < 140737488355328 then (q18z.l0 k1 a0 l1 l2 t259 (x8_1 ++ [false]) t259 (t259.length : Int) (wrap64 (x19_1 + 1))) else (none)))))) else (if a0 = 2 then (if t263 = true then (if t264 = true then (if x8_1.length < 140737488355328 then (q18z.l0 k1 a0 l1 l2 t259 (x8_1 ++ [true]) t259 (t259.length : Int) (wrap64 (x19_1 + 1))) else (none)) else (if a0 = 3 then (if x8_1.length < 140737488355328 then (q18z.l0 k1 a0 l1 l2 t259 (x8_1 ++ [!t263]) t259 (t259.length : Int) (wrap64 (x19_1 + 1))) else (none)) else (if x8_1.length < 140737488355328 then (q18z.l0 k1 a0 l1 l2 t259 (x8_1 ++ [false]) t259 (t259.length : Int) (wrap64 (x19_1 + 1))) else (none)))) else (if a0 = 3 then (if x8_1.length < 140737488355328 then (q18z.l0 k1 a0 l1 l2 t259 (x8_1 ++ [!t263]) t259 (t259.length : Int) (wrap64 (x19_1 + 1))) else (none)) else (if x8_1.length < 140737488355328 then (q18z.l0 k1 a0 l1 l2 t259 (x8_1 ++ [false]) t259 (t259.length : Int) (wrap64 (x19_1 + 1))) else (none)))) else (if a0 = 3 then (if x8_1.length < 140737488355328 then (q18z.l0 k1 a0 l1 l2 t259 (x8_1 ++ [!t263]) t259 (t259.length : Int) (wrap64 (x19_1 + 1))) else (none)) else (if x8_1.length < 140737488355328 then (q18z.l0 k1 a0 l1 l2 t259 (x8_1 ++ [false]) t259 (t259.length : Int) (wrap64 (x19_1 + 1))) else (none))))) = some r := H
      have A14 := Aside0.mk A140
      clear A140
      by_cases c15 : a0 = 1
      ·
       rw [if_pos c15] at H
       have c15b0 : (a0 == 1) = true := beq_iff_eq.mpr c15
       have c15b1 : (a0 != 1) = false := bne_eq_false_iff_eq.mpr c15
       clear c15
       by_cases c16 : t263 = true
       ·
        subst c16
        have H1 : (if x8_1.length < 140737488355328 then (q18z.l0 k1 a0 l1 l2 t259 (x8_1 ++ [true]) t259 (t259.length : Int) (wrap64 (x19_1 + 1))) else (none)) = some r := by rw [if_pos rfl] at H; exact H
        clear H
        have H := H1
        clear H1
        by_cases c17 : x8_1.length < 140737488355328
        ·
         rw [if_pos c17] at H
         have LMc17 := Aside0.mk c17
         clear c17
         obtain ⟨y265, hy265⟩ : ∃ y_ : List Bool, y_ = (x8_1 ++ [true]) := ⟨_, rfl⟩
         replace H : (q18z.l0 k1 a0 l1 l2 t259 y265 t259 (t259.length : Int) (wrap64 (x19_1 + 1))) = some r := by first | (rw [hy265]; with_reducible exact H) | (have H2_ := (Option.bind_some _ _).symm.trans H; rw [hy265]; with_reducible exact H2_) | (have H2_ := (Option.bind_some _ _).symm.trans H; with_reducible exact H2_) | with_reducible exact H | (rw [hy265]; exact H) | exact H
         have Ny265 := Aside0.mk hy265
         clear hy265
         have H' := Aside0.mk H
         clear H
         have p262 : 0 ≤ (x19_1 : Int) := of_decide_eq_true (by first | (with_reducible assumption) | assumption)
         have q262 : x19_1 < (t259.length : Int) := of_decide_eq_true (by first | (with_reducible assumption) | assumption)
         obtain ⟨ad262, e262, hx262_0⟩ := Kd.at_int (Kd.R_reads' HO_17.out).2.2 x19_1 p262 q262
         cases e262
         replace p262 := eq_true p262
         replace q262 := eq_true q262
         go_wp2_with (first | ((with_reducible refine gate_callee (f := 17) rfl ?_); refine goesL_ (some 25) rfl rfl Try.func17 (by kernel_rfl) rfl #[.slice A1 l1.length c1, .int .u32 (rd t259 x19_1)] rfl (by (try simp only [List.map_toArray, List.map_cons, List.map_nil]); first | done | rfl | (simp only [List.length_drop, List.length_take]; rfl)) ?_; (with_reducible refine (q12z.calls k1 _ _ l1 (rd t259 x19_1) true _ ?side1 ?side2 A13.out).mono ?_); (case side1 => repeat (first | exact (Kd.V_reads' HO_1.out).2.2 | (with_reducible refine Kd.C_alloc ?_ _) | (with_reducible refine Kd.C_drewN ?_ _) | (with_reducible refine Kd.C_drew ?_))); (case side2 => exact (Kd.V_reads' HO_1.out).2.1); rintro e w18 ⟨rfl, hb⟩; refine ⟨_, rfl, ?_⟩; have n0_ := Aside0.mk (Kd.V_below (by (with_reducible repeat (first | apply Kd.V_alloc | apply Kd.V_drewN | apply Kd.V_drew)); exact HO_1.out) hb); have n1_ := Aside0.mk (Kd.V_below (by (with_reducible repeat (first | apply Kd.V_alloc | apply Kd.V_drewN | apply Kd.V_drew)); exact HO_2.out) hb); have n2_ := Aside0.mk (Kd.R_below (by (with_reducible repeat (first | apply Kd.R_alloc | apply Kd.R_drewN | apply Kd.R_drew)); exact HO_7.out) hb); have n3_ := Aside0.mk (Kd.R_below (by (with_reducible repeat (first | apply Kd.R_alloc | apply Kd.R_drewN | apply Kd.R_drew)); exact HO_8.out) hb); have n4_ := Aside0.mk (Kd.R_below (by (with_reducible repeat (first | apply Kd.R_alloc | apply Kd.R_drewN | apply Kd.R_drew)); exact HO_17.out) hb); have n5_ := Aside0.mk (below_step (by repeat (first | (with_reducible first | exact HB.out | apply below_alloc | apply pw_below_drewN | apply below_drew1) | exact HB.out)) hb); clear HO_1; clear HO_2; clear HO_7; clear HO_8; clear HO_17; clear HB; have HO_1 := n0_; have HO_2 := n1_; have HO_7 := n2_; have HO_8 := n3_; have HO_17 := n4_; have HB := n5_; clear n0_ n1_ n2_ n3_ n4_ n5_; (try clear hb); (try clear hb2); (try clear hk); (try clear hi)) | ((with_reducible refine gate_callee (f := 17) rfl ?_); refine goesL_ (some 28) rfl rfl Try.func17 (by kernel_rfl) rfl #[.slice A2 l2.length c2, .int .u32 (rd t259 x19_1)] rfl (by (try simp only [List.map_toArray, List.map_cons, List.map_nil]); first | done | rfl | (simp only [List.length_drop, List.length_take]; rfl)) ?_; (with_reducible refine (q12z.calls k1 _ _ l2 (rd t259 x19_1) t264 _ ?side1 ?side2 A14.out).mono ?_); (case side1 => repeat (first | exact (Kd.V_reads' HO_2.out).2.2 | (with_reducible refine Kd.C_alloc ?_ _) | (with_reducible refine Kd.C_drewN ?_ _) | (with_reducible refine Kd.C_drew ?_))); (case side2 => exact (Kd.V_reads' HO_2.out).2.1); rintro e w19 ⟨rfl, hb⟩; refine ⟨_, rfl, ?_⟩; have n0_ := Aside0.mk (Kd.V_below (by (with_reducible repeat (first | apply Kd.V_alloc | apply Kd.V_drewN | apply Kd.V_drew)); exact HO_1.out) hb); have n1_ := Aside0.mk (Kd.V_below (by (with_reducible repeat (first | apply Kd.V_alloc | apply Kd.V_drewN | apply Kd.V_drew)); exact HO_2.out) hb); have n2_ := Aside0.mk (Kd.R_below (by (with_reducible repeat (first | apply Kd.R_alloc | apply Kd.R_drewN | apply Kd.R_drew)); exact HO_7.out) hb); have n3_ := Aside0.mk (Kd.R_below (by (with_reducible repeat (first | apply Kd.R_alloc | apply Kd.R_drewN | apply Kd.R_drew)); exact HO_8.out) hb); have n4_ := Aside0.mk (Kd.R_below (by (with_reducible repeat (first | apply Kd.R_alloc | apply Kd.R_drewN | apply Kd.R_drew)); exact HO_17.out) hb); have n5_ := Aside0.mk (below_step (by repeat (first | (with_reducible first | exact HB.out | apply below_alloc | apply pw_below_drewN | apply below_drew1) | exact HB.out)) hb); clear HO_1; clear HO_2; clear HO_7; clear HO_8; clear HO_17; clear HB; have HO_1 := n0_; have HO_2 := n1_; have HO_7 := n2_; have HO_8 := n3_; have HO_17 := n4_; have HB := n5_; clear n0_ n1_ n2_ n3_ n4_ n5_; (try clear hb); (try clear hb2); (try clear hk); (try clear hi)) | ((with_reducible refine gate_builtin (b := .append) (xs := #[.tmp 29, .tmp 56]) rfl ?_); at_builtin; refine Kd.R_append Kd.bool (w0 := w) w.heap.size rfl (.tmp 29) (.tmp 56) 48 4 (.bool false) 1 rfl Try.underlying48 info4 rfl (by decide) (by omega) u8 x8_1 true [.bool true] (fun k_ => (w.heap.size ≤ k_)) (fun _ => False) rfl rfl ?aP (fun _ hk => hk.elim) ?aF ?aO ?aB ?aS ?aL ?_; (case aP => exact rfl); (case aB => exact (by repeat (first | (with_reducible first | exact HB.out | apply below_alloc | apply pw_below_drewN | apply below_drew1) | exact HB.out))); (case aF => exact (fun k_ hk => (Nat.le_trans (below_size (by repeat (first | (with_reducible first | exact HB.out | apply below_alloc | apply pw_below_drewN | apply below_drew1) | exact HB.out))) hk))); (case aO => exact (by (with_reducible repeat (first | apply Kd.R_alloc | apply Kd.R_drewN | apply Kd.R_drew)); exact HO_8.out)); (case aS => exact (below_size (by repeat (first | (with_reducible first | exact HB.out | apply below_alloc | apply pw_below_drewN | apply below_drew1) | exact HB.out)))); (case aL => have := LMc17.out; omega); intro v266 w20 ho hb hg hat; rw [← Ny265.out] at ho; have n0_ := Aside0.mk (Kd.V_afterv (ok := (fun k_ => ((P1_ k_ ∨ P2_ k_) ∨ w.heap.size ≤ k_) ∧ some k_ ≠ (.slice (some ad262) t259.length co9 : Value).ownBlock ∧ some k_ ≠ (.slice (some ad262) t259.length co9 : Value).ownBlock)) (by (with_reducible repeat (first | apply Kd.V_alloc | apply Kd.V_drewN | apply Kd.V_drew)); exact Kd.V_mono HO_1.out (fun _ hk => ⟨⟨hk.1, ⟨hk.2.1, hk.2.2.2⟩⟩, hk.2.2.1⟩)) hg hat); have n1_ := Aside0.mk (Kd.V_afterv (ok := (fun k_ => ((P1_ k_ ∨ P2_ k_) ∨ w.heap.size ≤ k_) ∧ some k_ ≠ (.slice (some ad262) t259.length co9 : Value).ownBlock ∧ some k_ ≠ (.slice (some ad262) t259.length co9 : Value).ownBlock)) (by (with_reducible repeat (first | apply Kd.V_alloc | apply Kd.V_drewN | apply Kd.V_drew)); exact Kd.V_mono HO_2.out (fun _ hk => ⟨⟨hk.1, ⟨hk.2.1, hk.2.2.2⟩⟩, hk.2.2.1⟩)) hg hat); have n2_ := Aside0.mk (Kd.R_over' (by (with_reducible repeat (first | apply Kd.R_alloc | apply Kd.R_drewN | apply Kd.R_drew)); exact HO_7.out) (Kd.R_typed (by (with_reducible repeat (first | apply Kd.R_alloc | apply Kd.R_drewN | apply Kd.R_drew)); exact HO_8.out)) (by decide) hg); have n3_ := Aside0.mk (Kd.R_over' (by (with_reducible repeat (first | apply Kd.R_alloc | apply Kd.R_drewN | apply Kd.R_drew)); exact HO_17.out) (Kd.R_typed (by (with_reducible repeat (first | apply Kd.R_alloc | apply Kd.R_drewN | apply Kd.R_drew)); exact HO_8.out)) (by decide) hg); have n4_ := Aside0.mk (hb); have n5_ := Aside0.mk (ho); clear HO_1; clear HO_2; clear HO_7; clear HO_17; clear HB; clear HO_8; have HO_1 := n0_; have HO_2 := n1_; have HO_7 := n2_; have HO_17 := n3_; have HB := n4_; have HO267 := n5_; clear n0_ n1_ n2_ n3_ n4_ n5_; clear ho hb hg hat))
         go_roundg k1
         case measure => have := HK1.out; omega
         case rel => exact ⟨(y265), (wrap64 (x19_1 + 1)), (by first | rfl | (simp; done) | (simp [*]; done)), H', ⟨by have := HK1.out; omega⟩, ⟨by (with_reducible repeat (first | apply Kd.V_alloc | apply Kd.V_drewN | apply Kd.V_drew)); exact Kd.V_mono HO_1.out (fun _ hk => ⟨hk.1.1, ⟨hk.1.2.1, ⟨hk.2, hk.1.2.2⟩⟩⟩)⟩, ⟨by (with_reducible repeat (first | apply Kd.V_alloc | apply Kd.V_drewN | apply Kd.V_drew)); exact Kd.V_mono HO_2.out (fun _ hk => ⟨hk.1.1, ⟨hk.1.2.1, ⟨hk.2, hk.1.2.2⟩⟩⟩)⟩, ⟨by (with_reducible repeat (first | apply Kd.R_alloc | apply Kd.R_drewN | apply Kd.R_drew)); exact HO_7.out⟩, ⟨by (with_reducible repeat (first | apply Kd.R_alloc | apply Kd.R_drewN | apply Kd.R_drew)); exact HO267.out⟩, ⟨by (with_reducible repeat (first | apply Kd.R_alloc | apply Kd.R_drewN | apply Kd.R_drew)); exact HO_17.out⟩, ⟨by repeat (first | (with_reducible first | exact HB.out | apply below_alloc | apply pw_below_drewN | apply below_drew1) | exact HB.out)⟩⟩
        ·
         rw [if_neg c17] at H
         exact absurd H (by simp)
       ·
        replace c16 := Bool.eq_false_iff.mpr c16
        subst c16
        have H1 : (if t264 = true then (if x8_1.length < 140737488355328 then (q18z.l0 k1 a0 l1 l2 t259 (x8_1 ++ [true]) t259 (t259.length : Int) (wrap64 (x19_1 + 1))) else (none)) else (if a0 = 2 then (if a0 = 3 then (if x8_1.length < 140737488355328 then (q18z.l0 k1 a0 l1 l2 t259 (x8_1 ++ [!false]) t259 (t259.length : Int) (wrap64 (x19_1 + 1))) else (none)) else (if x8_1.length < 140737488355328 then (q18z.l0 k1 a0 l1 l2 t259 (x8_1 ++ [false]) t259 (t259.length : Int) (wrap64 (x19_1 + 1))) else (none))) else (if a0 = 3 then (if x8_1.length < 140737488355328 then (q18z.l0 k1 a0 l1 l2 t259 (x8_1 ++ [!false]) t259 (t259.length : Int) (wrap64 (x19_1 + 1))) else (none)) else (if x8_1.length < 140737488355328 then (q18z.l0 k1 a0 l1 l2 t259 (x8_1 ++ [false]) t259 (t259.length : Int) (wrap64 (x19_1 + 1))) else (none))))) = some r := by rw [if_neg (show ¬ (false = true) by decide)] at H; exact H
        clear H
        have H := H1
        clear H1
        by_cases c21 : t264 = true
        ·
         subst c21
         have H1 : (if x8_1.length < 140737488355328 then (q18z.l0 k1 a0 l1 l2 t259 (x8_1 ++ [true]) t259 (t259.length : Int) (wrap64 (x19_1 + 1))) else (none)) = some r := by rw [if_pos rfl] at H; exact H
         clear H
         have H := H1
         clear H1
         by_cases c22 : x8_1.length < 140737488355328
         ·
          rw [if_pos c22] at H
          have LMc22 := Aside0.mk c22
          clear c22
          obtain ⟨y268, hy268⟩ : ∃ y_ : List Bool, y_ = (x8_1 ++ [true]) := ⟨_, rfl⟩
          replace H : (q18z.l0 k1 a0 l1 l2 t259 y268 t259 (t259.length : Int) (wrap64 (x19_1 + 1))) = some r := by first | (rw [hy268]; with_reducible exact H) | (have H2_ := (Option.bind_some _ _).symm.trans H; rw [hy268]; with_reducible exact H2_) | (have H2_ := (Option.bind_some _ _).symm.trans H; with_reducible exact H2_) | with_reducible exact H | (rw [hy268]; exact H) | exact H
          have Ny268 := Aside0.mk hy268
          clear hy268
          have H' := Aside0.mk H
          clear H
          have p262 : 0 ≤ (x19_1 : Int) := of_decide_eq_true (by first | (with_reducible assumption) | assumption)
          have q262 : x19_1 < (t259.length : Int) := of_decide_eq_true (by first | (with_reducible assumption) | assumption)
          obtain ⟨ad262, e262, hx262_0⟩ := Kd.at_int (Kd.R_reads' HO_17.out).2.2 x19_1 p262 q262
          cases e262
          replace p262 := eq_true p262
          replace q262 := eq_true q262
          go_wp2_with (first | ((with_reducible refine gate_callee (f := 17) rfl ?_); refine goesL_ (some 25) rfl rfl Try.func17 (by kernel_rfl) rfl #[.slice A1 l1.length c1, .int .u32 (rd t259 x19_1)] rfl (by (try simp only [List.map_toArray, List.map_cons, List.map_nil]); first | done | rfl | (simp only [List.length_drop, List.length_take]; rfl)) ?_; (with_reducible refine (q12z.calls k1 _ _ l1 (rd t259 x19_1) false _ ?side1 ?side2 A13.out).mono ?_); (case side1 => repeat (first | exact (Kd.V_reads' HO_1.out).2.2 | (with_reducible refine Kd.C_alloc ?_ _) | (with_reducible refine Kd.C_drewN ?_ _) | (with_reducible refine Kd.C_drew ?_))); (case side2 => exact (Kd.V_reads' HO_1.out).2.1); rintro e w23 ⟨rfl, hb⟩; refine ⟨_, rfl, ?_⟩; have n0_ := Aside0.mk (Kd.V_below (by (with_reducible repeat (first | apply Kd.V_alloc | apply Kd.V_drewN | apply Kd.V_drew)); exact HO_1.out) hb); have n1_ := Aside0.mk (Kd.V_below (by (with_reducible repeat (first | apply Kd.V_alloc | apply Kd.V_drewN | apply Kd.V_drew)); exact HO_2.out) hb); have n2_ := Aside0.mk (Kd.R_below (by (with_reducible repeat (first | apply Kd.R_alloc | apply Kd.R_drewN | apply Kd.R_drew)); exact HO_7.out) hb); have n3_ := Aside0.mk (Kd.R_below (by (with_reducible repeat (first | apply Kd.R_alloc | apply Kd.R_drewN | apply Kd.R_drew)); exact HO_8.out) hb); have n4_ := Aside0.mk (Kd.R_below (by (with_reducible repeat (first | apply Kd.R_alloc | apply Kd.R_drewN | apply Kd.R_drew)); exact HO_17.out) hb); have n5_ := Aside0.mk (below_step (by repeat (first | (with_reducible first | exact HB.out | apply below_alloc | apply pw_below_drewN | apply below_drew1) | exact HB.out)) hb); clear HO_1; clear HO_2; clear HO_7; clear HO_8; clear HO_17; clear HB; have HO_1 := n0_; have HO_2 := n1_; have HO_7 := n2_; have HO_8 := n3_; have HO_17 := n4_; have HB := n5_; clear n0_ n1_ n2_ n3_ n4_ n5_; (try clear hb); (try clear hb2); (try clear hk); (try clear hi)) | ((with_reducible refine gate_callee (f := 17) rfl ?_); refine goesL_ (some 28) rfl rfl Try.func17 (by kernel_rfl) rfl #[.slice A2 l2.length c2, .int .u32 (rd t259 x19_1)] rfl (by (try simp only [List.map_toArray, List.map_cons, List.map_nil]); first | done | rfl | (simp only [List.length_drop, List.length_take]; rfl)) ?_; (with_reducible refine (q12z.calls k1 _ _ l2 (rd t259 x19_1) true _ ?side1 ?side2 A14.out).mono ?_); (case side1 => repeat (first | exact (Kd.V_reads' HO_2.out).2.2 | (with_reducible refine Kd.C_alloc ?_ _) | (with_reducible refine Kd.C_drewN ?_ _) | (with_reducible refine Kd.C_drew ?_))); (case side2 => exact (Kd.V_reads' HO_2.out).2.1); rintro e w24 ⟨rfl, hb⟩; refine ⟨_, rfl, ?_⟩; have n0_ := Aside0.mk (Kd.V_below (by (with_reducible repeat (first | apply Kd.V_alloc | apply Kd.V_drewN | apply Kd.V_drew)); exact HO_1.out) hb); have n1_ := Aside0.mk (Kd.V_below (by (with_reducible repeat (first | apply Kd.V_alloc | apply Kd.V_drewN | apply Kd.V_drew)); exact HO_2.out) hb); have n2_ := Aside0.mk (Kd.R_below (by (with_reducible repeat (first | apply Kd.R_alloc | apply Kd.R_drewN | apply Kd.R_drew)); exact HO_7.out) hb); have n3_ := Aside0.mk (Kd.R_below (by (with_reducible repeat (first | apply Kd.R_alloc | apply Kd.R_drewN | apply Kd.R_drew)); exact HO_8.out) hb); have n4_ := Aside0.mk (Kd.R_below (by (with_reducible repeat (first | apply Kd.R_alloc | apply Kd.R_drewN | apply Kd.R_drew)); exact HO_17.out) hb); have n5_ := Aside0.mk (below_step (by repeat (first | (with_reducible first | exact HB.out | apply below_alloc | apply pw_below_drewN | apply below_drew1) | exact HB.out)) hb); clear HO_1; clear HO_2; clear HO_7; clear HO_8; clear HO_17; clear HB; have HO_1 := n0_; have HO_2 := n1_; have HO_7 := n2_; have HO_8 := n3_; have HO_17 := n4_; have HB := n5_; clear n0_ n1_ n2_ n3_ n4_ n5_; (try clear hb); (try clear hb2); (try clear hk); (try clear hi)) | ((with_reducible refine gate_builtin (b := .append) (xs := #[.tmp 29, .tmp 56]) rfl ?_); at_builtin; refine Kd.R_append Kd.bool (w0 := w) w.heap.size rfl (.tmp 29) (.tmp 56) 48 4 (.bool false) 1 rfl Try.underlying48 info4 rfl (by decide) (by omega) u8 x8_1 true [.bool true] (fun k_ => (w.heap.size ≤ k_)) (fun _ => False) rfl rfl ?aP (fun _ hk => hk.elim) ?aF ?aO ?aB ?aS ?aL ?_; (case aP => exact rfl); (case aB => exact (by repeat (first | (with_reducible first | exact HB.out | apply below_alloc | apply pw_below_drewN | apply below_drew1) | exact HB.out))); (case aF => exact (fun k_ hk => (Nat.le_trans (below_size (by repeat (first | (with_reducible first | exact HB.out | apply below_alloc | apply pw_below_drewN | apply below_drew1) | exact HB.out))) hk))); (case aO => exact (by (with_reducible repeat (first | apply Kd.R_alloc | apply Kd.R_drewN | apply Kd.R_drew)); exact HO_8.out)); (case aS => exact (below_size (by repeat (first | (with_reducible first | exact HB.out | apply below_alloc | apply pw_below_drewN | apply below_drew1) | exact HB.out)))); (case aL => have := LMc22.out; omega); intro v269 w25 ho hb hg hat; rw [← Ny268.out] at ho; have n0_ := Aside0.mk (Kd.V_afterv (ok := (fun k_ => ((P1_ k_ ∨ P2_ k_) ∨ w.heap.size ≤ k_) ∧ some k_ ≠ (.slice (some ad262) t259.length co9 : Value).ownBlock ∧ some k_ ≠ (.slice (some ad262) t259.length co9 : Value).ownBlock)) (by (with_reducible repeat (first | apply Kd.V_alloc | apply Kd.V_drewN | apply Kd.V_drew)); exact Kd.V_mono HO_1.out (fun _ hk => ⟨⟨hk.1, ⟨hk.2.1, hk.2.2.2⟩⟩, hk.2.2.1⟩)) hg hat); have n1_ := Aside0.mk (Kd.V_afterv (ok := (fun k_ => ((P1_ k_ ∨ P2_ k_) ∨ w.heap.size ≤ k_) ∧ some k_ ≠ (.slice (some ad262) t259.length co9 : Value).ownBlock ∧ some k_ ≠ (.slice (some ad262) t259.length co9 : Value).ownBlock)) (by (with_reducible repeat (first | apply Kd.V_alloc | apply Kd.V_drewN | apply Kd.V_drew)); exact Kd.V_mono HO_2.out (fun _ hk => ⟨⟨hk.1, ⟨hk.2.1, hk.2.2.2⟩⟩, hk.2.2.1⟩)) hg hat); have n2_ := Aside0.mk (Kd.R_over' (by (with_reducible repeat (first | apply Kd.R_alloc | apply Kd.R_drewN | apply Kd.R_drew)); exact HO_7.out) (Kd.R_typed (by (with_reducible repeat (first | apply Kd.R_alloc | apply Kd.R_drewN | apply Kd.R_drew)); exact HO_8.out)) (by decide) hg); have n3_ := Aside0.mk (Kd.R_over' (by (with_reducible repeat (first | apply Kd.R_alloc | apply Kd.R_drewN | apply Kd.R_drew)); exact HO_17.out) (Kd.R_typed (by (with_reducible repeat (first | apply Kd.R_alloc | apply Kd.R_drewN | apply Kd.R_drew)); exact HO_8.out)) (by decide) hg); have n4_ := Aside0.mk (hb); have n5_ := Aside0.mk (ho); clear HO_1; clear HO_2; clear HO_7; clear HO_17; clear HB; clear HO_8; have HO_1 := n0_; have HO_2 := n1_; have HO_7 := n2_; have HO_17 := n3_; have HB := n4_; have HO270 := n5_; clear n0_ n1_ n2_ n3_ n4_ n5_; clear ho hb hg hat))
          go_roundg k1
          case measure => have := HK1.out; omega
          case rel => exact ⟨(y268), (wrap64 (x19_1 + 1)), (by first | rfl | (simp; done) | (simp [*]; done)), H', ⟨by have := HK1.out; omega⟩, ⟨by (with_reducible repeat (first | apply Kd.V_alloc | apply Kd.V_drewN | apply Kd.V_drew)); exact Kd.V_mono HO_1.out (fun _ hk => ⟨hk.1.1, ⟨hk.1.2.1, ⟨hk.2, hk.1.2.2⟩⟩⟩)⟩, ⟨by (with_reducible repeat (first | apply Kd.V_alloc | apply Kd.V_drewN | apply Kd.V_drew)); exact Kd.V_mono HO_2.out (fun _ hk => ⟨hk.1.1, ⟨hk.1.2.1, ⟨hk.2, hk.1.2.2⟩⟩⟩)⟩, ⟨by (with_reducible repeat (first | apply Kd.R_alloc | apply Kd.R_drewN | apply Kd.R_drew)); exact HO_7.out⟩, ⟨by (with_reducible repeat (first | apply Kd.R_alloc | apply Kd.R_drewN | apply Kd.R_drew)); exact HO270.out⟩, ⟨by (with_reducible repeat (first | apply Kd.R_alloc | apply Kd.R_drewN | apply Kd.R_drew)); exact HO_17.out⟩, ⟨by repeat (first | (with_reducible first | exact HB.out | apply below_alloc | apply pw_below_drewN | apply below_drew1) | exact HB.out)⟩⟩
         ·
          rw [if_neg c22] at H
          exact absurd H (by simp)
        ·
         replace c21 := Bool.eq_false_iff.mpr c21
         subst c21
         have H1 : (if a0 = 2 then (if a0 = 3 then (if x8_1.length < 140737488355328 then (q18z.l0 k1 a0 l1 l2 t259 (x8_1 ++ [!false]) t259 (t259.length : Int) (wrap64 (x19_1 + 1))) else (none)) else (if x8_1.length < 140737488355328 then (q18z.l0 k1 a0 l1 l2 t259 (x8_1 ++ [false]) t259 (t259.length : Int) (wrap64 (x19_1 + 1))) else (none))) else (if a0 = 3 then (if x8_1.length < 140737488355328 then (q18z.l0 k1 a0 l1 l2 t259 (x8_1 ++ [!false]) t259 (t259.length : Int) (wrap64 (x19_1 + 1))) else (none)) else (if x8_1.length < 140737488355328 then (q18z.l0 k1 a0 l1 l2 t259 (x8_1 ++ [false]) t259 (t259.length : Int) (wrap64 (x19_1 + 1))) else (none)))) = some r := by rw [if_neg (show ¬ (false = true) by decide)] at H; exact H
         clear H
         have H := H1
         clear H1
         by_cases c26 : a0 = 2
         ·
          rw [if_pos c26] at H
          have c26b0 : (a0 == 2) = true := beq_iff_eq.mpr c26
          have c26b1 : (a0 != 2) = false := bne_eq_false_iff_eq.mpr c26
          clear c26
          by_cases c27 : a0 = 3
          ·
           rw [if_pos c27] at H
           have c27b0 : (a0 == 3) = true := beq_iff_eq.mpr c27
           have c27b1 : (a0 != 3) = false := bne_eq_false_iff_eq.mpr c27
           clear c27
           by_cases c28 : x8_1.length < 140737488355328
           ·
            rw [if_pos c28] at H
            have LMc28 := Aside0.mk c28
            clear c28
            obtain ⟨y271, hy271⟩ : ∃ y_ : List Bool, y_ = (x8_1 ++ [!false]) := ⟨_, rfl⟩
            replace H : (q18z.l0 k1 a0 l1 l2 t259 y271 t259 (t259.length : Int) (wrap64 (x19_1 + 1))) = some r := by first | (rw [hy271]; with_reducible exact H) | (have H2_ := (Option.bind_some _ _).symm.trans H; rw [hy271]; with_reducible exact H2_) | (have H2_ := (Option.bind_some _ _).symm.trans H; with_reducible exact H2_) | with_reducible exact H | (rw [hy271]; exact H) | exact H
            have Ny271 := Aside0.mk hy271
            clear hy271
            have H' := Aside0.mk H
            clear H
            have p262 : 0 ≤ (x19_1 : Int) := of_decide_eq_true (by first | (with_reducible assumption) | assumption)
            have q262 : x19_1 < (t259.length : Int) := of_decide_eq_true (by first | (with_reducible assumption) | assumption)
            obtain ⟨ad262, e262, hx262_0⟩ := Kd.at_int (Kd.R_reads' HO_17.out).2.2 x19_1 p262 q262
            cases e262
            replace p262 := eq_true p262
            replace q262 := eq_true q262
            go_wp2_with (first | ((with_reducible refine gate_callee (f := 17) rfl ?_); refine goesL_ (some 25) rfl rfl Try.func17 (by kernel_rfl) rfl #[.slice A1 l1.length c1, .int .u32 (rd t259 x19_1)] rfl (by (try simp only [List.map_toArray, List.map_cons, List.map_nil]); first | done | rfl | (simp only [List.length_drop, List.length_take]; rfl)) ?_; (with_reducible refine (q12z.calls k1 _ _ l1 (rd t259 x19_1) false _ ?side1 ?side2 A13.out).mono ?_); (case side1 => repeat (first | exact (Kd.V_reads' HO_1.out).2.2 | (with_reducible refine Kd.C_alloc ?_ _) | (with_reducible refine Kd.C_drewN ?_ _) | (with_reducible refine Kd.C_drew ?_))); (case side2 => exact (Kd.V_reads' HO_1.out).2.1); rintro e w29 ⟨rfl, hb⟩; refine ⟨_, rfl, ?_⟩; have n0_ := Aside0.mk (Kd.V_below (by (with_reducible repeat (first | apply Kd.V_alloc | apply Kd.V_drewN | apply Kd.V_drew)); exact HO_1.out) hb); have n1_ := Aside0.mk (Kd.V_below (by (with_reducible repeat (first | apply Kd.V_alloc | apply Kd.V_drewN | apply Kd.V_drew)); exact HO_2.out) hb); have n2_ := Aside0.mk (Kd.R_below (by (with_reducible repeat (first | apply Kd.R_alloc | apply Kd.R_drewN | apply Kd.R_drew)); exact HO_7.out) hb); have n3_ := Aside0.mk (Kd.R_below (by (with_reducible repeat (first | apply Kd.R_alloc | apply Kd.R_drewN | apply Kd.R_drew)); exact HO_8.out) hb); have n4_ := Aside0.mk (Kd.R_below (by (with_reducible repeat (first | apply Kd.R_alloc | apply Kd.R_drewN | apply Kd.R_drew)); exact HO_17.out) hb); have n5_ := Aside0.mk (below_step (by repeat (first | (with_reducible first | exact HB.out | apply below_alloc | apply pw_below_drewN | apply below_drew1) | exact HB.out)) hb); clear HO_1; clear HO_2; clear HO_7; clear HO_8; clear HO_17; clear HB; have HO_1 := n0_; have HO_2 := n1_; have HO_7 := n2_; have HO_8 := n3_; have HO_17 := n4_; have HB := n5_; clear n0_ n1_ n2_ n3_ n4_ n5_; (try clear hb); (try clear hb2); (try clear hk); (try clear hi)) | ((with_reducible refine gate_callee (f := 17) rfl ?_); refine goesL_ (some 28) rfl rfl Try.func17 (by kernel_rfl) rfl #[.slice A2 l2.length c2, .int .u32 (rd t259 x19_1)] rfl (by (try simp only [List.map_toArray, List.map_cons, List.map_nil]); first | done | rfl | (simp only [List.length_drop, List.length_take]; rfl)) ?_; (with_reducible refine (q12z.calls k1 _ _ l2 (rd t259 x19_1) false _ ?side1 ?side2 A14.out).mono ?_); (case side1 => repeat (first | exact (Kd.V_reads' HO_2.out).2.2 | (with_reducible refine Kd.C_alloc ?_ _) | (with_reducible refine Kd.C_drewN ?_ _) | (with_reducible refine Kd.C_drew ?_))); (case side2 => exact (Kd.V_reads' HO_2.out).2.1); rintro e w30 ⟨rfl, hb⟩; refine ⟨_, rfl, ?_⟩; have n0_ := Aside0.mk (Kd.V_below (by (with_reducible repeat (first | apply Kd.V_alloc | apply Kd.V_drewN | apply Kd.V_drew)); exact HO_1.out) hb); have n1_ := Aside0.mk (Kd.V_below (by (with_reducible repeat (first | apply Kd.V_alloc | apply Kd.V_drewN | apply Kd.V_drew)); exact HO_2.out) hb); have n2_ := Aside0.mk (Kd.R_below (by (with_reducible repeat (first | apply Kd.R_alloc | apply Kd.R_drewN | apply Kd.R_drew)); exact HO_7.out) hb); have n3_ := Aside0.mk (Kd.R_below (by (with_reducible repeat (first | apply Kd.R_alloc | apply Kd.R_drewN | apply Kd.R_drew)); exact HO_8.out) hb); have n4_ := Aside0.mk (Kd.R_below (by (with_reducible repeat (first | apply Kd.R_alloc | apply Kd.R_drewN | apply Kd.R_drew)); exact HO_17.out) hb); have n5_ := Aside0.mk (below_step (by repeat (first | (with_reducible first | exact HB.out | apply below_alloc | apply pw_below_drewN | apply below_drew1) | exact HB.out)) hb); clear HO_1; clear HO_2; clear HO_7; clear HO_8; clear HO_17; clear HB; have HO_1 := n0_; have HO_2 := n1_; have HO_7 := n2_; have HO_8 := n3_; have HO_17 := n4_; have HB := n5_; clear n0_ n1_ n2_ n3_ n4_ n5_; (try clear hb); (try clear hb2); (try clear hk); (try clear hi)) | ((with_reducible refine gate_builtin (b := .append) (xs := #[.tmp 29, .tmp 56]) rfl ?_); at_builtin; refine Kd.R_append Kd.bool (w0 := w) w.heap.size rfl (.tmp 29) (.tmp 56) 48 4 (.bool false) 1 rfl Try.underlying48 info4 rfl (by decide) (by omega) u8 x8_1 (!false) [.bool (!false)] (fun k_ => (w.heap.size ≤ k_)) (fun _ => False) rfl rfl ?aP (fun _ hk => hk.elim) ?aF ?aO ?aB ?aS ?aL ?_; (case aP => exact rfl); (case aB => exact (by repeat (first | (with_reducible first | exact HB.out | apply below_alloc | apply pw_below_drewN | apply below_drew1) | exact HB.out))); (case aF => exact (fun k_ hk => (Nat.le_trans (below_size (by repeat (first | (with_reducible first | exact HB.out | apply below_alloc | apply pw_below_drewN | apply below_drew1) | exact HB.out))) hk))); (case aO => exact (by (with_reducible repeat (first | apply Kd.R_alloc | apply Kd.R_drewN | apply Kd.R_drew)); exact HO_8.out)); (case aS => exact (below_size (by repeat (first | (with_reducible first | exact HB.out | apply below_alloc | apply pw_below_drewN | apply below_drew1) | exact HB.out)))); (case aL => have := LMc28.out; omega); intro v272 w31 ho hb hg hat; rw [← Ny271.out] at ho; have n0_ := Aside0.mk (Kd.V_afterv (ok := (fun k_ => ((P1_ k_ ∨ P2_ k_) ∨ w.heap.size ≤ k_) ∧ some k_ ≠ (.slice (some ad262) t259.length co9 : Value).ownBlock ∧ some k_ ≠ (.slice (some ad262) t259.length co9 : Value).ownBlock)) (by (with_reducible repeat (first | apply Kd.V_alloc | apply Kd.V_drewN | apply Kd.V_drew)); exact Kd.V_mono HO_1.out (fun _ hk => ⟨⟨hk.1, ⟨hk.2.1, hk.2.2.2⟩⟩, hk.2.2.1⟩)) hg hat); have n1_ := Aside0.mk (Kd.V_afterv (ok := (fun k_ => ((P1_ k_ ∨ P2_ k_) ∨ w.heap.size ≤ k_) ∧ some k_ ≠ (.slice (some ad262) t259.length co9 : Value).ownBlock ∧ some k_ ≠ (.slice (some ad262) t259.length co9 : Value).ownBlock)) (by (with_reducible repeat (first | apply Kd.V_alloc | apply Kd.V_drewN | apply Kd.V_drew)); exact Kd.V_mono HO_2.out (fun _ hk => ⟨⟨hk.1, ⟨hk.2.1, hk.2.2.2⟩⟩, hk.2.2.1⟩)) hg hat); have n2_ := Aside0.mk (Kd.R_over' (by (with_reducible repeat (first | apply Kd.R_alloc | apply Kd.R_drewN | apply Kd.R_drew)); exact HO_7.out) (Kd.R_typed (by (with_reducible repeat (first | apply Kd.R_alloc | apply Kd.R_drewN | apply Kd.R_drew)); exact HO_8.out)) (by decide) hg); have n3_ := Aside0.mk (Kd.R_over' (by (with_reducible repeat (first | apply Kd.R_alloc | apply Kd.R_drewN | apply Kd.R_drew)); exact HO_17.out) (Kd.R_typed (by (with_reducible repeat (first | apply Kd.R_alloc | apply Kd.R_drewN | apply Kd.R_drew)); exact HO_8.out)) (by decide) hg); have n4_ := Aside0.mk (hb); have n5_ := Aside0.mk (ho); clear HO_1; clear HO_2; clear HO_7; clear HO_17; clear HB; clear HO_8; have HO_1 := n0_; have HO_2 := n1_; have HO_7 := n2_; have HO_17 := n3_; have HB := n4_; have HO273 := n5_; clear n0_ n1_ n2_ n3_ n4_ n5_; clear ho hb hg hat))
            go_roundg k1
            case measure => have := HK1.out; omega
            case rel => exact ⟨(y271), (wrap64 (x19_1 + 1)), (by first | rfl | (simp; done) | (simp [*]; done)), H', ⟨by have := HK1.out; omega⟩, ⟨by (with_reducible repeat (first | apply Kd.V_alloc | apply Kd.V_drewN | apply Kd.V_drew)); exact Kd.V_mono HO_1.out (fun _ hk => ⟨hk.1.1, ⟨hk.1.2.1, ⟨hk.2, hk.1.2.2⟩⟩⟩)⟩, ⟨by (with_reducible repeat (first | apply Kd.V_alloc | apply Kd.V_drewN | apply Kd.V_drew)); exact Kd.V_mono HO_2.out (fun _ hk => ⟨hk.1.1, ⟨hk.1.2.1, ⟨hk.2, hk.1.2.2⟩⟩⟩)⟩, ⟨by (with_reducible repeat (first | apply Kd.R_alloc | apply Kd.R_drewN | apply Kd.R_drew)); exact HO_7.out⟩, ⟨by (with_reducible repeat (first | apply Kd.R_alloc | apply Kd.R_drewN | apply Kd.R_drew)); exact HO273.out⟩, ⟨by (with_reducible repeat (first | apply Kd.R_alloc | apply Kd.R_drewN | apply Kd.R_drew)); exact HO_17.out⟩, ⟨by repeat (first | (with_reducible first | exact HB.out | apply below_alloc | apply pw_below_drewN | apply below_drew1) | exact HB.out)⟩⟩
           ·
            rw [if_neg c28] at H
            exact absurd H (by simp)
          ·
           rw [if_neg c27] at H
           have c27b0 : (a0 == 3) = false := beq_eq_false_iff_ne.mpr c27
           have c27b1 : (a0 != 3) = true := bne_iff_ne.mpr c27
           by_cases c32 : x8_1.length < 140737488355328
           ·
            rw [if_pos c32] at H
            have LMc32 := Aside0.mk c32
            clear c32
            obtain ⟨y274, hy274⟩ : ∃ y_ : List Bool, y_ = (x8_1 ++ [false]) := ⟨_, rfl⟩
            replace H : (q18z.l0 k1 a0 l1 l2 t259 y274 t259 (t259.length : Int) (wrap64 (x19_1 + 1))) = some r := by first | (rw [hy274]; with_reducible exact H) | (have H2_ := (Option.bind_some _ _).symm.trans H; rw [hy274]; with_reducible exact H2_) | (have H2_ := (Option.bind_some _ _).symm.trans H; with_reducible exact H2_) | with_reducible exact H | (rw [hy274]; exact H) | exact H
            have Ny274 := Aside0.mk hy274
            clear hy274
            have H' := Aside0.mk H
            clear H
            have p262 : 0 ≤ (x19_1 : Int) := of_decide_eq_true (by first | (with_reducible assumption) | assumption)
            have q262 : x19_1 < (t259.length : Int) := of_decide_eq_true (by first | (with_reducible assumption) | assumption)
            obtain ⟨ad262, e262, hx262_0⟩ := Kd.at_int (Kd.R_reads' HO_17.out).2.2 x19_1 p262 q262
            cases e262
            replace p262 := eq_true p262
            replace q262 := eq_true q262
            go_wp2_with (first | ((with_reducible refine gate_callee (f := 17) rfl ?_); refine goesL_ (some 25) rfl rfl Try.func17 (by kernel_rfl) rfl #[.slice A1 l1.length c1, .int .u32 (rd t259 x19_1)] rfl (by (try simp only [List.map_toArray, List.map_cons, List.map_nil]); first | done | rfl | (simp only [List.length_drop, List.length_take]; rfl)) ?_; (with_reducible refine (q12z.calls k1 _ _ l1 (rd t259 x19_1) false _ ?side1 ?side2 A13.out).mono ?_); (case side1 => repeat (first | exact (Kd.V_reads' HO_1.out).2.2 | (with_reducible refine Kd.C_alloc ?_ _) | (with_reducible refine Kd.C_drewN ?_ _) | (with_reducible refine Kd.C_drew ?_))); (case side2 => exact (Kd.V_reads' HO_1.out).2.1); rintro e w33 ⟨rfl, hb⟩; refine ⟨_, rfl, ?_⟩; have n0_ := Aside0.mk (Kd.V_below (by (with_reducible repeat (first | apply Kd.V_alloc | apply Kd.V_drewN | apply Kd.V_drew)); exact HO_1.out) hb); have n1_ := Aside0.mk (Kd.V_below (by (with_reducible repeat (first | apply Kd.V_alloc | apply Kd.V_drewN | apply Kd.V_drew)); exact HO_2.out) hb); have n2_ := Aside0.mk (Kd.R_below (by (with_reducible repeat (first | apply Kd.R_alloc | apply Kd.R_drewN | apply Kd.R_drew)); exact HO_7.out) hb); have n3_ := Aside0.mk (Kd.R_below (by (with_reducible repeat (first | apply Kd.R_alloc | apply Kd.R_drewN | apply Kd.R_drew)); exact HO_8.out) hb); have n4_ := Aside0.mk (Kd.R_below (by (with_reducible repeat (first | apply Kd.R_alloc | apply Kd.R_drewN | apply Kd.R_drew)); exact HO_17.out) hb); have n5_ := Aside0.mk (below_step (by repeat (first | (with_reducible first | exact HB.out | apply below_alloc | apply pw_below_drewN | apply below_drew1) | exact HB.out)) hb); clear HO_1; clear HO_2; clear HO_7; clear HO_8; clear HO_17; clear HB; have HO_1 := n0_; have HO_2 := n1_; have HO_7 := n2_; have HO_8 := n3_; have HO_17 := n4_; have HB := n5_; clear n0_ n1_ n2_ n3_ n4_ n5_; (try clear hb); (try clear hb2); (try clear hk); (try clear hi)) | ((with_reducible refine gate_callee (f := 17) rfl ?_); refine goesL_ (some 28) rfl rfl Try.func17 (by kernel_rfl) rfl #[.slice A2 l2.length c2, .int .u32 (rd t259 x19_1)] rfl (by (try simp only [List.map_toArray, List.map_cons, List.map_nil]); first | done | rfl | (simp only [List.length_drop, List.length_take]; rfl)) ?_; (with_reducible refine (q12z.calls k1 _ _ l2 (rd t259 x19_1) false _ ?side1 ?side2 A14.out).mono ?_); (case side1 => repeat (first | exact (Kd.V_reads' HO_2.out).2.2 | (with_reducible refine Kd.C_alloc ?_ _) | (with_reducible refine Kd.C_drewN ?_ _) | (with_reducible refine Kd.C_drew ?_))); (case side2 => exact (Kd.V_reads' HO_2.out).2.1); rintro e w34 ⟨rfl, hb⟩; refine ⟨_, rfl, ?_⟩; have n0_ := Aside0.mk (Kd.V_below (by (with_reducible repeat (first | apply Kd.V_alloc | apply Kd.V_drewN | apply Kd.V_drew)); exact HO_1.out) hb); have n1_ := Aside0.mk (Kd.V_below (by (with_reducible repeat (first | apply Kd.V_alloc | apply Kd.V_drewN | apply Kd.V_drew)); exact HO_2.out) hb); have n2_ := Aside0.mk (Kd.R_below (by (with_reducible repeat (first | apply Kd.R_alloc | apply Kd.R_drewN | apply Kd.R_drew)); exact HO_7.out) hb); have n3_ := Aside0.mk (Kd.R_below (by (with_reducible repeat (first | apply Kd.R_alloc | apply Kd.R_drewN | apply Kd.R_drew)); exact HO_8.out) hb); have n4_ := Aside0.mk (Kd.R_below (by (with_reducible repeat (first | apply Kd.R_alloc | apply Kd.R_drewN | apply Kd.R_drew)); exact HO_17.out) hb); have n5_ := Aside0.mk (below_step (by repeat (first | (with_reducible first | exact HB.out | apply below_alloc | apply pw_below_drewN | apply below_drew1) | exact HB.out)) hb); clear HO_1; clear HO_2; clear HO_7; clear HO_8; clear HO_17; clear HB; have HO_1 := n0_; have HO_2 := n1_; have HO_7 := n2_; have HO_8 := n3_; have HO_17 := n4_; have HB := n5_; clear n0_ n1_ n2_ n3_ n4_ n5_; (try clear hb); (try clear hb2); (try clear hk); (try clear hi)) | ((with_reducible refine gate_builtin (b := .append) (xs := #[.tmp 29, .tmp 56]) rfl ?_); at_builtin; refine Kd.R_append Kd.bool (w0 := w) w.heap.size rfl (.tmp 29) (.tmp 56) 48 4 (.bool false) 1 rfl Try.underlying48 info4 rfl (by decide) (by omega) u8 x8_1 false [.bool false] (fun k_ => (w.heap.size ≤ k_)) (fun _ => False) rfl rfl ?aP (fun _ hk => hk.elim) ?aF ?aO ?aB ?aS ?aL ?_; (case aP => exact rfl); (case aB => exact (by repeat (first | (with_reducible first | exact HB.out | apply below_alloc | apply pw_below_drewN | apply below_drew1) | exact HB.out))); (case aF => exact (fun k_ hk => (Nat.le_trans (below_size (by repeat (first | (with_reducible first | exact HB.out | apply below_alloc | apply pw_below_drewN | apply below_drew1) | exact HB.out))) hk))); (case aO => exact (by (with_reducible repeat (first | apply Kd.R_alloc | apply Kd.R_drewN | apply Kd.R_drew)); exact HO_8.out)); (case aS => exact (below_size (by repeat (first | (with_reducible first | exact HB.out | apply below_alloc | apply pw_below_drewN | apply below_drew1) | exact HB.out)))); (case aL => have := LMc32.out; omega); intro v275 w35 ho hb hg hat; rw [← Ny274.out] at ho; have n0_ := Aside0.mk (Kd.V_afterv (ok := (fun k_ => ((P1_ k_ ∨ P2_ k_) ∨ w.heap.size ≤ k_) ∧ some k_ ≠ (.slice (some ad262) t259.length co9 : Value).ownBlock ∧ some k_ ≠ (.slice (some ad262) t259.length co9 : Value).ownBlock)) (by (with_reducible repeat (first | apply Kd.V_alloc | apply Kd.V_drewN | apply Kd.V_drew)); exact Kd.V_mono HO_1.out (fun _ hk => ⟨⟨hk.1, ⟨hk.2.1, hk.2.2.2⟩⟩, hk.2.2.1⟩)) hg hat); have n1_ := Aside0.mk (Kd.V_afterv (ok := (fun k_ => ((P1_ k_ ∨ P2_ k_) ∨ w.heap.size ≤ k_) ∧ some k_ ≠ (.slice (some ad262) t259.length co9 : Value).ownBlock ∧ some k_ ≠ (.slice (some ad262) t259.length co9 : Value).ownBlock)) (by (with_reducible repeat (first | apply Kd.V_alloc | apply Kd.V_drewN | apply Kd.V_drew)); exact Kd.V_mono HO_2.out (fun _ hk => ⟨⟨hk.1, ⟨hk.2.1, hk.2.2.2⟩⟩, hk.2.2.1⟩)) hg hat); have n2_ := Aside0.mk (Kd.R_over' (by (with_reducible repeat (first | apply Kd.R_alloc | apply Kd.R_drewN | apply Kd.R_drew)); exact HO_7.out) (Kd.R_typed (by (with_reducible repeat (first | apply Kd.R_alloc | apply Kd.R_drewN | apply Kd.R_drew)); exact HO_8.out)) (by decide) hg); have n3_ := Aside0.mk (Kd.R_over' (by (with_reducible repeat (first | apply Kd.R_alloc | apply Kd.R_drewN | apply Kd.R_drew)); exact HO_17.out) (Kd.R_typed (by (with_reducible repeat (first | apply Kd.R_alloc | apply Kd.R_drewN | apply Kd.R_drew)); exact HO_8.out)) (by decide) hg); have n4_ := Aside0.mk (hb); have n5_ := Aside0.mk (ho); clear HO_1; clear HO_2; clear HO_7; clear HO_17; clear HB; clear HO_8; have HO_1 := n0_; have HO_2 := n1_; have HO_7 := n2_; have HO_17 := n3_; have HB := n4_; have HO276 := n5_; clear n0_ n1_ n2_ n3_ n4_ n5_; clear ho hb hg hat))
            go_roundg k1
            case measure => have := HK1.out; omega
            case rel => exact ⟨(y274), (wrap64 (x19_1 + 1)), (by first | rfl | (simp; done) | (simp [*]; done)), H', ⟨by have := HK1.out; omega⟩, ⟨by (with_reducible repeat (first | apply Kd.V_alloc | apply Kd.V_drewN | apply Kd.V_drew)); exact Kd.V_mono HO_1.out (fun _ hk => ⟨hk.1.1, ⟨hk.1.2.1, ⟨hk.2, hk.1.2.2⟩⟩⟩)⟩, ⟨by (with_reducible repeat (first | apply Kd.V_alloc | apply Kd.V_drewN | apply Kd.V_drew)); exact Kd.V_mono HO_2.out (fun _ hk => ⟨hk.1.1, ⟨hk.1.2.1, ⟨hk.2, hk.1.2.2⟩⟩⟩)⟩, ⟨by (with_reducible repeat (first | apply Kd.R_alloc | apply Kd.R_drewN | apply Kd.R_drew)); exact HO_7.out⟩, ⟨by (with_reducible repeat (first | apply Kd.R_alloc | apply Kd.R_drewN | apply Kd.R_drew)); exact HO276.out⟩, ⟨by (with_reducible repeat (first | apply Kd.R_alloc | apply Kd.R_drewN | apply Kd.R_drew)); exact HO_17.out⟩, ⟨by repeat (first | (with_reducible first | exact HB.out | apply below_alloc | apply pw_below_drewN | apply below_drew1) | exact HB.out)⟩⟩
           ·
            rw [if_neg c32] at H
            exact absurd H (by simp)
         ·
          rw [if_neg c26] at H
          have c26b0 : (a0 == 2) = false := beq_eq_false_iff_ne.mpr c26
          have c26b1 : (a0 != 2) = true := bne_iff_ne.mpr c26
          by_cases c36 : a0 = 3
          ·
           rw [if_pos c36] at H
           have c36b0 : (a0 == 3) = true := beq_iff_eq.mpr c36
           have c36b1 : (a0 != 3) = false := bne_eq_false_iff_eq.mpr c36
           clear c36
           by_cases c37 : x8_1.length < 140737488355328
           ·
            rw [if_pos c37] at H
            have LMc37 := Aside0.mk c37
            clear c37
            obtain ⟨y277, hy277⟩ : ∃ y_ : List Bool, y_ = (x8_1 ++ [!false]) := ⟨_, rfl⟩
            replace H : (q18z.l0 k1 a0 l1 l2 t259 y277 t259 (t259.length : Int) (wrap64 (x19_1 + 1))) = some r := by first | (rw [hy277]; with_reducible exact H) | (have H2_ := (Option.bind_some _ _).symm.trans H; rw [hy277]; with_reducible exact H2_) | (have H2_ := (Option.bind_some _ _).symm.trans H; with_reducible exact H2_) | with_reducible exact H | (rw [hy277]; exact H) | exact H
            have Ny277 := Aside0.mk hy277
            clear hy277
            have H' := Aside0.mk H
            clear H
            have p262 : 0 ≤ (x19_1 : Int) := of_decide_eq_true (by first | (with_reducible assumption) | assumption)
            have q262 : x19_1 < (t259.length : Int) := of_decide_eq_true (by first | (with_reducible assumption) | assumption)
            obtain ⟨ad262, e262, hx262_0⟩ := Kd.at_int (Kd.R_reads' HO_17.out).2.2 x19_1 p262 q262
            cases e262
            replace p262 := eq_true p262
            replace q262 := eq_true q262
            go_wp2_with (first | ((with_reducible refine gate_callee (f := 17) rfl ?_); refine goesL_ (some 25) rfl rfl Try.func17 (by kernel_rfl) rfl #[.slice A1 l1.length c1, .int .u32 (rd t259 x19_1)] rfl (by (try simp only [List.map_toArray, List.map_cons, List.map_nil]); first | done | rfl | (simp only [List.length_drop, List.length_take]; rfl)) ?_; (with_reducible refine (q12z.calls k1 _ _ l1 (rd t259 x19_1) false _ ?side1 ?side2 A13.out).mono ?_); (case side1 => repeat (first | exact (Kd.V_reads' HO_1.out).2.2 | (with_reducible refine Kd.C_alloc ?_ _) | (with_reducible refine Kd.C_drewN ?_ _) | (with_reducible refine Kd.C_drew ?_))); (case side2 => exact (Kd.V_reads' HO_1.out).2.1); rintro e w38 ⟨rfl, hb⟩; refine ⟨_, rfl, ?_⟩; have n0_ := Aside0.mk (Kd.V_below (by (with_reducible repeat (first | apply Kd.V_alloc | apply Kd.V_drewN | apply Kd.V_drew)); exact HO_1.out) hb); have n1_ := Aside0.mk (Kd.V_below (by (with_reducible repeat (first | apply Kd.V_alloc | apply Kd.V_drewN | apply Kd.V_drew)); exact HO_2.out) hb); have n2_ := Aside0.mk (Kd.R_below (by (with_reducible repeat (first | apply Kd.R_alloc | apply Kd.R_drewN | apply Kd.R_drew)); exact HO_7.out) hb); have n3_ := Aside0.mk (Kd.R_below (by (with_reducible repeat (first | apply Kd.R_alloc | apply Kd.R_drewN | apply Kd.R_drew)); exact HO_8.out) hb); have n4_ := Aside0.mk (Kd.R_below (by (with_reducible repeat (first | apply Kd.R_alloc | apply Kd.R_drewN | apply Kd.R_drew)); exact HO_17.out) hb); have n5_ := Aside0.mk (below_step (by repeat (first | (with_reducible first | exact HB.out | apply below_alloc | apply pw_below_drewN | apply below_drew1) | exact HB.out)) hb); clear HO_1; clear HO_2; clear HO_7; clear HO_8; clear HO_17; clear HB; have HO_1 := n0_; have HO_2 := n1_; have HO_7 := n2_; have HO_8 := n3_; have HO_17 := n4_; have HB := n5_; clear n0_ n1_ n2_ n3_ n4_ n5_; (try clear hb); (try clear hb2); (try clear hk); (try clear hi)) | ((with_reducible refine gate_callee (f := 17) rfl ?_); refine goesL_ (some 28) rfl rfl Try.func17 (by kernel_rfl) rfl #[.slice A2 l2.length c2, .int .u32 (rd t259 x19_1)] rfl (by (try simp only [List.map_toArray, List.map_cons, List.map_nil]); first | done | rfl | (simp only [List.length_drop, List.length_take]; rfl)) ?_; (with_reducible refine (q12z.calls k1 _ _ l2 (rd t259 x19_1) false _ ?side1 ?side2 A14.out).mono ?_); (case side1 => repeat (first | exact (Kd.V_reads' HO_2.out).2.2 | (with_reducible refine Kd.C_alloc ?_ _) | (with_reducible refine Kd.C_drewN ?_ _) | (with_reducible refine Kd.C_drew ?_))); (case side2 => exact (Kd.V_reads' HO_2.out).2.1); rintro e w39 ⟨rfl, hb⟩; refine ⟨_, rfl, ?_⟩; have n0_ := Aside0.mk (Kd.V_below (by (with_reducible repeat (first | apply Kd.V_alloc | apply Kd.V_drewN | apply Kd.V_drew)); exact HO_1.out) hb); have n1_ := Aside0.mk (Kd.V_below (by (with_reducible repeat (first | apply Kd.V_alloc | apply Kd.V_drewN | apply Kd.V_drew)); exact HO_2.out) hb); have n2_ := Aside0.mk (Kd.R_below (by (with_reducible repeat (first | apply Kd.R_alloc | apply Kd.R_drewN | apply Kd.R_drew)); exact HO_7.out) hb); have n3_ := Aside0.mk (Kd.R_below (by (with_reducible repeat (first | apply Kd.R_alloc | apply Kd.R_drewN | apply Kd.R_drew)); exact HO_8.out) hb); have n4_ := Aside0.mk (Kd.R_below (by (with_reducible repeat (first | apply Kd.R_alloc | apply Kd.R_drewN | apply Kd.R_drew)); exact HO_17.out) hb); have n5_ := Aside0.mk (below_step (by repeat (first | (with_reducible first | exact HB.out | apply below_alloc | apply pw_below_drewN | apply below_drew1) | exact HB.out)) hb); clear HO_1; clear HO_2; clear HO_7; clear HO_8; clear HO_17; clear HB; have HO_1 := n0_; have HO_2 := n1_; have HO_7 := n2_; have HO_8 := n3_; have HO_17 := n4_; have HB := n5_; clear n0_ n1_ n2_ n3_ n4_ n5_; (try clear hb); (try clear hb2); (try clear hk); (try clear hi)) | ((with_reducible refine gate_builtin (b := .append) (xs := #[.tmp 29, .tmp 56]) rfl ?_); at_builtin; refine Kd.R_append Kd.bool (w0 := w) w.heap.size rfl (.tmp 29) (.tmp 56) 48 4 (.bool false) 1 rfl Try.underlying48 info4 rfl (by decide) (by omega) u8 x8_1 (!false) [.bool (!false)] (fun k_ => (w.heap.size ≤ k_)) (fun _ => False) rfl rfl ?aP (fun _ hk => hk.elim) ?aF ?aO ?aB ?aS ?aL ?_; (case aP => exact rfl); (case aB => exact (by repeat (first | (with_reducible first | exact HB.out | apply below_alloc | apply pw_below_drewN | apply below_drew1) | exact HB.out))); (case aF => exact (fun k_ hk => (Nat.le_trans (below_size (by repeat (first | (with_reducible first | exact HB.out | apply below_alloc | apply pw_below_drewN | apply below_drew1) | exact HB.out))) hk))); (case aO => exact (by (with_reducible repeat (first | apply Kd.R_alloc | apply Kd.R_drewN | apply Kd.R_drew)); exact HO_8.out)); (case aS => exact (below_size (by repeat (first | (with_reducible first | exact HB.out | apply below_alloc | apply pw_below_drewN | apply below_drew1) | exact HB.out)))); (case aL => have := LMc37.out; omega); intro v278 w40 ho hb hg hat; rw [← Ny277.out] at ho; have n0_ := Aside0.mk (Kd.V_afterv (ok := (fun k_ => ((P1_ k_ ∨ P2_ k_) ∨ w.heap.size ≤ k_) ∧ some k_ ≠ (.slice (some ad262) t259.length co9 : Value).ownBlock ∧ some k_ ≠ (.slice (some ad262) t259.length co9 : Value).ownBlock)) (by (with_reducible repeat (first | apply Kd.V_alloc | apply Kd.V_drewN | apply Kd.V_drew)); exact Kd.V_mono HO_1.out (fun _ hk => ⟨⟨hk.1, ⟨hk.2.1, hk.2.2.2⟩⟩, hk.2.2.1⟩)) hg hat); have n1_ := Aside0.mk (Kd.V_afterv (ok := (fun k_ => ((P1_ k_ ∨ P2_ k_) ∨ w.heap.size ≤ k_) ∧ some k_ ≠ (.slice (some ad262) t259.length co9 : Value).ownBlock ∧ some k_ ≠ (.slice (some ad262) t259.length co9 : Value).ownBlock)) (by (with_reducible repeat (first | apply Kd.V_alloc | apply Kd.V_drewN | apply Kd.V_drew)); exact Kd.V_mono HO_2.out (fun _ hk => ⟨⟨hk.1, ⟨hk.2.1, hk.2.2.2⟩⟩, hk.2.2.1⟩)) hg hat); have n2_ := Aside0.mk (Kd.R_over' (by (with_reducible repeat (first | apply Kd.R_alloc | apply Kd.R_drewN | apply Kd.R_drew)); exact HO_7.out) (Kd.R_typed (by (with_reducible repeat (first | apply Kd.R_alloc | apply Kd.R_drewN | apply Kd.R_drew)); exact HO_8.out)) (by decide) hg); have n3_ := Aside0.mk (Kd.R_over' (by (with_reducible repeat (first | apply Kd.R_alloc | apply Kd.R_drewN | apply Kd.R_drew)); exact HO_17.out) (Kd.R_typed (by (with_reducible repeat (first | apply Kd.R_alloc | apply Kd.R_drewN | apply Kd.R_drew)); exact HO_8.out)) (by decide) hg); have n4_ := Aside0.mk (hb); have n5_ := Aside0.mk (ho); clear HO_1; clear HO_2; clear HO_7; clear HO_17; clear HB; clear HO_8; have HO_1 := n0_; have HO_2 := n1_; have HO_7 := n2_; have HO_17 := n3_; have HB := n4_; have HO279 := n5_; clear n0_ n1_ n2_ n3_ n4_ n5_; clear ho hb hg hat))
            go_roundg k1
            case measure => have := HK1.out; omega
            case rel => exact ⟨(y277), (wrap64 (x19_1 + 1)), (by first | rfl | (simp; done) | (simp [*]; done)), H', ⟨by have := HK1.out; omega⟩, ⟨by (with_reducible repeat (first | apply Kd.V_alloc | apply Kd.V_drewN | apply Kd.V_drew)); exact Kd.V_mono HO_1.out (fun _ hk => ⟨hk.1.1, ⟨hk.1.2.1, ⟨hk.2, hk.1.2.2⟩⟩⟩)⟩, ⟨by (with_reducible repeat (first | apply Kd.V_alloc | apply Kd.V_drewN | apply Kd.V_drew)); exact Kd.V_mono HO_2.out (fun _ hk => ⟨hk.1.1, ⟨hk.1.2.1, ⟨hk.2, hk.1.2.2⟩⟩⟩)⟩, ⟨by (with_reducible repeat (first | apply Kd.R_alloc | apply Kd.R_drewN | apply Kd.R_drew)); exact HO_7.out⟩, ⟨by (with_reducible repeat (first | apply Kd.R_alloc | apply Kd.R_drewN | apply Kd.R_drew)); exact HO279.out⟩, ⟨by (with_reducible repeat (first | apply Kd.R_alloc | apply Kd.R_drewN | apply Kd.R_drew)); exact HO_17.out⟩, ⟨by repeat (first | (with_reducible first | exact HB.out | apply below_alloc | apply pw_below_drewN | apply below_drew1) | exact HB.out)⟩⟩
           ·
            rw [if_neg c37] at H
            exact absurd H (by simp)
          ·
           rw [if_neg c36] at H
           have c36b0 : (a0 == 3) = false := beq_eq_false_iff_ne.mpr c36
           have c36b1 : (a0 != 3) = true := bne_iff_ne.mpr c36
           by_cases c41 : x8_1.length < 140737488355328
           ·
            rw [if_pos c41] at H
            have LMc41 := Aside0.mk c41
            clear c41
            obtain ⟨y280, hy280⟩ : ∃ y_ : List Bool, y_ = (x8_1 ++ [false]) := ⟨_, rfl⟩
            replace H : (q18z.l0 k1 a0 l1 l2 t259 y280 t259 (t259.length : Int) (wrap64 (x19_1 + 1))) = some r := by first | (rw [hy280]; with_reducible exact H) | (have H2_ := (Option.bind_some _ _).symm.trans H; rw [hy280]; with_reducible exact H2_) | (have H2_ := (Option.bind_some _ _).symm.trans H; with_reducible exact H2_) | with_reducible exact H | (rw [hy280]; exact H) | exact H
            have Ny280 := Aside0.mk hy280
            clear hy280
            have H' := Aside0.mk H
            clear H
            have p262 : 0 ≤ (x19_1 : Int) := of_decide_eq_true (by first | (with_reducible assumption) | assumption)
            have q262 : x19_1 < (t259.length : Int) := of_decide_eq_true (by first | (with_reducible assumption) | assumption)
            obtain ⟨ad262, e262, hx262_0⟩ := Kd.at_int (Kd.R_reads' HO_17.out).2.2 x19_1 p262 q262
            cases e262
            replace p262 := eq_true p262
            replace q262 := eq_true q262
            go_wp2_with (first | ((with_reducible refine gate_callee (f := 17) rfl ?_); refine goesL_ (some 25) rfl rfl Try.func17 (by kernel_rfl) rfl #[.slice A1 l1.length c1, .int .u32 (rd t259 x19_1)] rfl (by (try simp only [List.map_toArray, List.map_cons, List.map_nil]); first | done | rfl | (simp only [List.length_drop, List.length_take]; rfl)) ?_; (with_reducible refine (q12z.calls k1 _ _ l1 (rd t259 x19_1) false _ ?side1 ?side2 A13.out).mono ?_); (case side1 => repeat (first | exact (Kd.V_reads' HO_1.out).2.2 | (with_reducible refine Kd.C_alloc ?_ _) | (with_reducible refine Kd.C_drewN ?_ _) | (with_reducible refine Kd.C_drew ?_))); (case side2 => exact (Kd.V_reads' HO_1.out).2.1); rintro e w42 ⟨rfl, hb⟩; refine ⟨_, rfl, ?_⟩; have n0_ := Aside0.mk (Kd.V_below (by (with_reducible repeat (first | apply Kd.V_alloc | apply Kd.V_drewN | apply Kd.V_drew)); exact HO_1.out) hb); have n1_ := Aside0.mk (Kd.V_below (by (with_reducible repeat (first | apply Kd.V_alloc | apply Kd.V_drewN | apply Kd.V_drew)); exact HO_2.out) hb); have n2_ := Aside0.mk (Kd.R_below (by (with_reducible repeat (first | apply Kd.R_alloc | apply Kd.R_drewN | apply Kd.R_drew)); exact HO_7.out) hb); have n3_ := Aside0.mk (Kd.R_below (by (with_reducible repeat (first | apply Kd.R_alloc | apply Kd.R_drewN | apply Kd.R_drew)); exact HO_8.out) hb); have n4_ := Aside0.mk (Kd.R_below (by (with_reducible repeat (first | apply Kd.R_alloc | apply Kd.R_drewN | apply Kd.R_drew)); exact HO_17.out) hb); have n5_ := Aside0.mk (below_step (by repeat (first | (with_reducible first | exact HB.out | apply below_alloc | apply pw_below_drewN | apply below_drew1) | exact HB.out)) hb); clear HO_1; clear HO_2; clear HO_7; clear HO_8; clear HO_17; clear HB; have HO_1 := n0_; have HO_2 := n1_; have HO_7 := n2_; have HO_8 := n3_; have HO_17 := n4_; have HB := n5_; clear n0_ n1_ n2_ n3_ n4_ n5_; (try clear hb); (try clear hb2); (try clear hk); (try clear hi)) | ((with_reducible refine gate_callee (f := 17) rfl ?_); refine goesL_ (some 28) rfl rfl Try.func17 (by kernel_rfl) rfl #[.slice A2 l2.length c2, .int .u32 (rd t259 x19_1)] rfl (by (try simp only [List.map_toArray, List.map_cons, List.map_nil]); first | done | rfl | (simp only [List.length_drop, List.length_take]; rfl)) ?_; (with_reducible refine (q12z.calls k1 _ _ l2 (rd t259 x19_1) false _ ?side1 ?side2 A14.out).mono ?_); (case side1 => repeat (first | exact (Kd.V_reads' HO_2.out).2.2 | (with_reducible refine Kd.C_alloc ?_ _) | (with_reducible refine Kd.C_drewN ?_ _) | (with_reducible refine Kd.C_drew ?_))); (case side2 => exact (Kd.V_reads' HO_2.out).2.1); rintro e w43 ⟨rfl, hb⟩; refine ⟨_, rfl, ?_⟩; have n0_ := Aside0.mk (Kd.V_below (by (with_reducible repeat (first | apply Kd.V_alloc | apply Kd.V_drewN | apply Kd.V_drew)); exact HO_1.out) hb); have n1_ := Aside0.mk (Kd.V_below (by (with_reducible repeat (first | apply Kd.V_alloc | apply Kd.V_drewN | apply Kd.V_drew)); exact HO_2.out) hb); have n2_ := Aside0.mk (Kd.R_below (by (with_reducible repeat (first | apply Kd.R_alloc | apply Kd.R_drewN | apply Kd.R_drew)); exact HO_7.out) hb); have n3_ := Aside0.mk (Kd.R_below (by (with_reducible repeat (first | apply Kd.R_alloc | apply Kd.R_drewN | apply Kd.R_drew)); exact HO_8.out) hb); have n4_ := Aside0.mk (Kd.R_below (by (with_reducible repeat (first | apply Kd.R_alloc | apply Kd.R_drewN | apply Kd.R_drew)); exact HO_17.out) hb); have n5_ := Aside0.mk (below_step (by repeat (first | (with_reducible first | exact HB.out | apply below_alloc | apply pw_below_drewN | apply below_drew1) | exact HB.out)) hb); clear HO_1; clear HO_2; clear HO_7; clear HO_8; clear HO_17; clear HB; have HO_1 := n0_; have HO_2 := n1_; have HO_7 := n2_; have HO_8 := n3_; have HO_17 := n4_; have HB := n5_; clear n0_ n1_ n2_ n3_ n4_ n5_; (try clear hb); (try clear hb2); (try clear hk); (try clear hi)) | ((with_reducible refine gate_builtin (b := .append) (xs := #[.tmp 29, .tmp 56]) rfl ?_); at_builtin; refine Kd.R_append Kd.bool (w0 := w) w.heap.size rfl (.tmp 29) (.tmp 56) 48 4 (.bool false) 1 rfl Try.underlying48 info4 rfl (by decide) (by omega) u8 x8_1 false [.bool false] (fun k_ => (w.heap.size ≤ k_)) (fun _ => False) rfl rfl ?aP (fun _ hk => hk.elim) ?aF ?aO ?aB ?aS ?aL ?_; (case aP => exact rfl); (case aB => exact (by repeat (first | (with_reducible first | exact HB.out | apply below_alloc | apply pw_below_drewN | apply below_drew1) | exact HB.out))); (case aF => exact (fun k_ hk => (Nat.le_trans (below_size (by repeat (first | (with_reducible first | exact HB.out | apply below_alloc | apply pw_below_drewN | apply below_drew1) | exact HB.out))) hk))); (case aO => exact (by (with_reducible repeat (first | apply Kd.R_alloc | apply Kd.R_drewN | apply Kd.R_drew)); exact HO_8.out)); (case aS => exact (below_size (by repeat (first | (with_reducible first | exact HB.out | apply below_alloc | apply pw_below_drewN | apply below_drew1) | exact HB.out)))); (case aL => have := LMc41.out; omega); intro v281 w44 ho hb hg hat; rw [← Ny280.out] at ho; have n0_ := Aside0.mk (Kd.V_afterv (ok := (fun k_ => ((P1_ k_ ∨ P2_ k_) ∨ w.heap.size ≤ k_) ∧ some k_ ≠ (.slice (some ad262) t259.length co9 : Value).ownBlock ∧ some k_ ≠ (.slice (some ad262) t259.length co9 : Value).ownBlock)) (by (with_reducible repeat (first | apply Kd.V_alloc | apply Kd.V_drewN | apply Kd.V_drew)); exact Kd.V_mono HO_1.out (fun _ hk => ⟨⟨hk.1, ⟨hk.2.1, hk.2.2.2⟩⟩, hk.2.2.1⟩)) hg hat); have n1_ := Aside0.mk (Kd.V_afterv (ok := (fun k_ => ((P1_ k_ ∨ P2_ k_) ∨ w.heap.size ≤ k_) ∧ some k_ ≠ (.slice (some ad262) t259.length co9 : Value).ownBlock ∧ some k_ ≠ (.slice (some ad262) t259.length co9 : Value).ownBlock)) (by (with_reducible repeat (first | apply Kd.V_alloc | apply Kd.V_drewN | apply Kd.V_drew)); exact Kd.V_mono HO_2.out (fun _ hk => ⟨⟨hk.1, ⟨hk.2.1, hk.2.2.2⟩⟩, hk.2.2.1⟩)) hg hat); have n2_ := Aside0.mk (Kd.R_over' (by (with_reducible repeat (first | apply Kd.R_alloc | apply Kd.R_drewN | apply Kd.R_drew)); exact HO_7.out) (Kd.R_typed (by (with_reducible repeat (first | apply Kd.R_alloc | apply Kd.R_drewN | apply Kd.R_drew)); exact HO_8.out)) (by decide) hg); have n3_ := Aside0.mk (Kd.R_over' (by (with_reducible repeat (first | apply Kd.R_alloc | apply Kd.R_drewN | apply Kd.R_drew)); exact HO_17.out) (Kd.R_typed (by (with_reducible repeat (first | apply Kd.R_alloc | apply Kd.R_drewN | apply Kd.R_drew)); exact HO_8.out)) (by decide) hg); have n4_ := Aside0.mk (hb); have n5_ := Aside0.mk (ho); clear HO_1; clear HO_2; clear HO_7; clear HO_17; clear HB; clear HO_8; have HO_1 := n0_; have HO_2 := n1_; have HO_7 := n2_; have HO_17 := n3_; have HB := n4_; have HO282 := n5_; clear n0_ n1_ n2_ n3_ n4_ n5_; clear ho hb hg hat))
            go_roundg k1
            case measure => have := HK1.out; omega
            case rel => exact ⟨(y280), (wrap64 (x19_1 + 1)), (by first | rfl | (simp; done) | (simp [*]; done)), H', ⟨by have := HK1.out; omega⟩, ⟨by (with_reducible repeat (first | apply Kd.V_alloc | apply Kd.V_drewN | apply Kd.V_drew)); exact Kd.V_mono HO_1.out (fun _ hk => ⟨hk.1.1, ⟨hk.1.2.1, ⟨hk.2, hk.1.2.2⟩⟩⟩)⟩, ⟨by (with_reducible repeat (first | apply Kd.V_alloc | apply Kd.V_drewN | apply Kd.V_drew)); exact Kd.V_mono HO_2.out (fun _ hk => ⟨hk.1.1, ⟨hk.1.2.1, ⟨hk.2, hk.1.2.2⟩⟩⟩)⟩, ⟨by (with_reducible repeat (first | apply Kd.R_alloc | apply Kd.R_drewN | apply Kd.R_drew)); exact HO_7.out⟩, ⟨by (with_reducible repeat (first | apply Kd.R_alloc | apply Kd.R_drewN | apply Kd.R_drew)); exact HO282.out⟩, ⟨by (with_reducible repeat (first | apply Kd.R_alloc | apply Kd.R_drewN | apply Kd.R_drew)); exact HO_17.out⟩, ⟨by repeat (first | (with_reducible first | exact HB.out | apply below_alloc | apply pw_below_drewN | apply below_drew1) | exact HB.out)⟩⟩
           ·
            rw [if_neg c41] at H
            exact absurd H (by simp)
      ·
       rw [if_neg c15] at H
       have c15b0 : (a0 == 1) = false := beq_eq_false_iff_ne.mpr c15
       have c15b1 : (a0 != 1) = true := bne_iff_ne.mpr c15
       by_cases c45 : a0 = 2
       ·
        rw [if_pos c45] at H
        have c45b0 : (a0 == 2) = true := beq_iff_eq.mpr c45
        have c45b1 : (a0 != 2) = false := bne_eq_false_iff_eq.mpr c45
        clear c45
        by_cases c46 : t263 = true
        ·
         subst c46
         have H1 : (if t264 = true then (if x8_1.length < 140737488355328 then (q18z.l0 k1 a0 l1 l2 t259 (x8_1 ++ [true]) t259 (t259.length : Int) (wrap64 (x19_1 + 1))) else (none)) else (if a0 = 3 then (if x8_1.length < 140737488355328 then (q18z.l0 k1 a0 l1 l2 t259 (x8_1 ++ [!true]) t259 (t259.length : Int) (wrap64 (x19_1 + 1))) else (none)) else (if x8_1.length < 140737488355328 then (q18z.l0 k1 a0 l1 l2 t259 (x8_1 ++ [false]) t259 (t259.length : Int) (wrap64 (x19_1 + 1))) else (none)))) = some r := by rw [if_pos rfl] at H; exact H
         clear H
         have H := H1
         clear H1
         by_cases c47 : t264 = true
         ·
          subst c47
          have H1 : (if x8_1.length < 140737488355328 then (q18z.l0 k1 a0 l1 l2 t259 (x8_1 ++ [true]) t259 (t259.length : Int) (wrap64 (x19_1 + 1))) else (none)) = some r := by rw [if_pos rfl] at H; exact H
          clear H
          have H := H1
          clear H1
          by_cases c48 : x8_1.length < 140737488355328
          ·
           rw [if_pos c48] at H
           have LMc48 := Aside0.mk c48
           clear c48
           obtain ⟨y283, hy283⟩ : ∃ y_ : List Bool, y_ = (x8_1 ++ [true]) := ⟨_, rfl⟩
           replace H : (q18z.l0 k1 a0 l1 l2 t259 y283 t259 (t259.length : Int) (wrap64 (x19_1 + 1))) = some r := by first | (rw [hy283]; with_reducible exact H) | (have H2_ := (Option.bind_some _ _).symm.trans H; rw [hy283]; with_reducible exact H2_) | (have H2_ := (Option.bind_some _ _).symm.trans H; with_reducible exact H2_) | with_reducible exact H | (rw [hy283]; exact H) | exact H
           have Ny283 := Aside0.mk hy283
           clear hy283
           have H' := Aside0.mk H
           clear H
           have p262 : 0 ≤ (x19_1 : Int) := of_decide_eq_true (by first | (with_reducible assumption) | assumption)
           have q262 : x19_1 < (t259.length : Int) := of_decide_eq_true (by first | (with_reducible assumption) | assumption)
           obtain ⟨ad262, e262, hx262_0⟩ := Kd.at_int (Kd.R_reads' HO_17.out).2.2 x19_1 p262 q262
           cases e262
           replace p262 := eq_true p262
           replace q262 := eq_true q262
           go_wp2_with (first | ((with_reducible refine gate_callee (f := 17) rfl ?_); refine goesL_ (some 25) rfl rfl Try.func17 (by kernel_rfl) rfl #[.slice A1 l1.length c1, .int .u32 (rd t259 x19_1)] rfl (by (try simp only [List.map_toArray, List.map_cons, List.map_nil]); first | done | rfl | (simp only [List.length_drop, List.length_take]; rfl)) ?_; (with_reducible refine (q12z.calls k1 _ _ l1 (rd t259 x19_1) true _ ?side1 ?side2 A13.out).mono ?_); (case side1 => repeat (first | exact (Kd.V_reads' HO_1.out).2.2 | (with_reducible refine Kd.C_alloc ?_ _) | (with_reducible refine Kd.C_drewN ?_ _) | (with_reducible refine Kd.C_drew ?_))); (case side2 => exact (Kd.V_reads' HO_1.out).2.1); rintro e w49 ⟨rfl, hb⟩; refine ⟨_, rfl, ?_⟩; have n0_ := Aside0.mk (Kd.V_below (by (with_reducible repeat (first | apply Kd.V_alloc | apply Kd.V_drewN | apply Kd.V_drew)); exact HO_1.out) hb); have n1_ := Aside0.mk (Kd.V_below (by (with_reducible repeat (first | apply Kd.V_alloc | apply Kd.V_drewN | apply Kd.V_drew)); exact HO_2.out) hb); have n2_ := Aside0.mk (Kd.R_below (by (with_reducible repeat (first | apply Kd.R_alloc | apply Kd.R_drewN | apply Kd.R_drew)); exact HO_7.out) hb); have n3_ := Aside0.mk (Kd.R_below (by (with_reducible repeat (first | apply Kd.R_alloc | apply Kd.R_drewN | apply Kd.R_drew)); exact HO_8.out) hb); have n4_ := Aside0.mk (Kd.R_below (by (with_reducible repeat (first | apply Kd.R_alloc | apply Kd.R_drewN | apply Kd.R_drew)); exact HO_17.out) hb); have n5_ := Aside0.mk (below_step (by repeat (first | (with_reducible first | exact HB.out | apply below_alloc | apply pw_below_drewN | apply below_drew1) | exact HB.out)) hb); clear HO_1; clear HO_2; clear HO_7; clear HO_8; clear HO_17; clear HB; have HO_1 := n0_; have HO_2 := n1_; have HO_7 := n2_; have HO_8 := n3_; have HO_17 := n4_; have HB := n5_; clear n0_ n1_ n2_ n3_ n4_ n5_; (try clear hb); (try clear hb2); (try clear hk); (try clear hi)) | ((with_reducible refine gate_callee (f := 17) rfl ?_); refine goesL_ (some 28) rfl rfl Try.func17 (by kernel_rfl) rfl #[.slice A2 l2.length c2, .int .u32 (rd t259 x19_1)] rfl (by (try simp only [List.map_toArray, List.map_cons, List.map_nil]); first | done | rfl | (simp only [List.length_drop, List.length_take]; rfl)) ?_; (with_reducible refine (q12z.calls k1 _ _ l2 (rd t259 x19_1) true _ ?side1 ?side2 A14.out).mono ?_); (case side1 => repeat (first | exact (Kd.V_reads' HO_2.out).2.2 | (with_reducible refine Kd.C_alloc ?_ _) | (with_reducible refine Kd.C_drewN ?_ _) | (with_reducible refine Kd.C_drew ?_))); (case side2 => exact (Kd.V_reads' HO_2.out).2.1); rintro e w50 ⟨rfl, hb⟩; refine ⟨_, rfl, ?_⟩; have n0_ := Aside0.mk (Kd.V_below (by (with_reducible repeat (first | apply Kd.V_alloc | apply Kd.V_drewN | apply Kd.V_drew)); exact HO_1.out) hb); have n1_ := Aside0.mk (Kd.V_below (by (with_reducible repeat (first | apply Kd.V_alloc | apply Kd.V_drewN | apply Kd.V_drew)); exact HO_2.out) hb); have n2_ := Aside0.mk (Kd.R_below (by (with_reducible repeat (first | apply Kd.R_alloc | apply Kd.R_drewN | apply Kd.R_drew)); exact HO_7.out) hb); have n3_ := Aside0.mk (Kd.R_below (by (with_reducible repeat (first | apply Kd.R_alloc | apply Kd.R_drewN | apply Kd.R_drew)); exact HO_8.out) hb); have n4_ := Aside0.mk (Kd.R_below (by (with_reducible repeat (first | apply Kd.R_alloc | apply Kd.R_drewN | apply Kd.R_drew)); exact HO_17.out) hb); have n5_ := Aside0.mk (below_step (by repeat (first | (with_reducible first | exact HB.out | apply below_alloc | apply pw_below_drewN | apply below_drew1) | exact HB.out)) hb); clear HO_1; clear HO_2; clear HO_7; clear HO_8; clear HO_17; clear HB; have HO_1 := n0_; have HO_2 := n1_; have HO_7 := n2_; have HO_8 := n3_; have HO_17 := n4_; have HB := n5_; clear n0_ n1_ n2_ n3_ n4_ n5_; (try clear hb); (try clear hb2); (try clear hk); (try clear hi)) | ((with_reducible refine gate_builtin (b := .append) (xs := #[.tmp 29, .tmp 56]) rfl ?_); at_builtin; refine Kd.R_append Kd.bool (w0 := w) w.heap.size rfl (.tmp 29) (.tmp 56) 48 4 (.bool false) 1 rfl Try.underlying48 info4 rfl (by decide) (by omega) u8 x8_1 true [.bool true] (fun k_ => (w.heap.size ≤ k_)) (fun _ => False) rfl rfl ?aP (fun _ hk => hk.elim) ?aF ?aO ?aB ?aS ?aL ?_; (case aP => exact rfl); (case aB => exact (by repeat (first | (with_reducible first | exact HB.out | apply below_alloc | apply pw_below_drewN | apply below_drew1) | exact HB.out))); (case aF => exact (fun k_ hk => (Nat.le_trans (below_size (by repeat (first | (with_reducible first | exact HB.out | apply below_alloc | apply pw_below_drewN | apply below_drew1) | exact HB.out))) hk))); (case aO => exact (by (with_reducible repeat (first | apply Kd.R_alloc | apply Kd.R_drewN | apply Kd.R_drew)); exact HO_8.out)); (case aS => exact (below_size (by repeat (first | (with_reducible first | exact HB.out | apply below_alloc | apply pw_below_drewN | apply below_drew1) | exact HB.out)))); (case aL => have := LMc48.out; omega); intro v284 w51 ho hb hg hat; rw [← Ny283.out] at ho; have n0_ := Aside0.mk (Kd.V_afterv (ok := (fun k_ => ((P1_ k_ ∨ P2_ k_) ∨ w.heap.size ≤ k_) ∧ some k_ ≠ (.slice (some ad262) t259.length co9 : Value).ownBlock ∧ some k_ ≠ (.slice (some ad262) t259.length co9 : Value).ownBlock)) (by (with_reducible repeat (first | apply Kd.V_alloc | apply Kd.V_drewN | apply Kd.V_drew)); exact Kd.V_mono HO_1.out (fun _ hk => ⟨⟨hk.1, ⟨hk.2.1, hk.2.2.2⟩⟩, hk.2.2.1⟩)) hg hat); have n1_ := Aside0.mk (Kd.V_afterv (ok := (fun k_ => ((P1_ k_ ∨ P2_ k_) ∨ w.heap.size ≤ k_) ∧ some k_ ≠ (.slice (some ad262) t259.length co9 : Value).ownBlock ∧ some k_ ≠ (.slice (some ad262) t259.length co9 : Value).ownBlock)) (by (with_reducible repeat (first | apply Kd.V_alloc | apply Kd.V_drewN | apply Kd.V_drew)); exact Kd.V_mono HO_2.out (fun _ hk => ⟨⟨hk.1, ⟨hk.2.1, hk.2.2.2⟩⟩, hk.2.2.1⟩)) hg hat); have n2_ := Aside0.mk (Kd.R_over' (by (with_reducible repeat (first | apply Kd.R_alloc | apply Kd.R_drewN | apply Kd.R_drew)); exact HO_7.out) (Kd.R_typed (by (with_reducible repeat (first | apply Kd.R_alloc | apply Kd.R_drewN | apply Kd.R_drew)); exact HO_8.out)) (by decide) hg); have n3_ := Aside0.mk (Kd.R_over' (by (with_reducible repeat (first | apply Kd.R_alloc | apply Kd.R_drewN | apply Kd.R_drew)); exact HO_17.out) (Kd.R_typed (by (with_reducible repeat (first | apply Kd.R_alloc | apply Kd.R_drewN | apply Kd.R_drew)); exact HO_8.out)) (by decide) hg); have n4_ := Aside0.mk (hb); have n5_ := Aside0.mk (ho); clear HO_1; clear HO_2; clear HO_7; clear HO_17; clear HB; clear HO_8; have HO_1 := n0_; have HO_2 := n1_; have HO_7 := n2_; have HO_17 := n3_; have HB := n4_; have HO285 := n5_; clear n0_ n1_ n2_ n3_ n4_ n5_; clear ho hb hg hat))
           go_roundg k1
           case measure => have := HK1.out; omega
           case rel => exact ⟨(y283), (wrap64 (x19_1 + 1)), (by first | rfl | (simp; done) | (simp [*]; done)), H', ⟨by have := HK1.out; omega⟩, ⟨by (with_reducible repeat (first | apply Kd.V_alloc | apply Kd.V_drewN | apply Kd.V_drew)); exact Kd.V_mono HO_1.out (fun _ hk => ⟨hk.1.1, ⟨hk.1.2.1, ⟨hk.2, hk.1.2.2⟩⟩⟩)⟩, ⟨by (with_reducible repeat (first | apply Kd.V_alloc | apply Kd.V_drewN | apply Kd.V_drew)); exact Kd.V_mono HO_2.out (fun _ hk => ⟨hk.1.1, ⟨hk.1.2.1, ⟨hk.2, hk.1.2.2⟩⟩⟩)⟩, ⟨by (with_reducible repeat (first | apply Kd.R_alloc | apply Kd.R_drewN | apply Kd.R_drew)); exact HO_7.out⟩, ⟨by (with_reducible repeat (first | apply Kd.R_alloc | apply Kd.R_drewN | apply Kd.R_drew)); exact HO285.out⟩, ⟨by (with_reducible repeat (first | apply Kd.R_alloc | apply Kd.R_drewN | apply Kd.R_drew)); exact HO_17.out⟩, ⟨by repeat (first | (with_reducible first | exact HB.out | apply below_alloc | apply pw_below_drewN | apply below_drew1) | exact HB.out)⟩⟩
          ·
           rw [if_neg c48] at H
           exact absurd H (by simp)
         ·
          replace c47 := Bool.eq_false_iff.mpr c47
          subst c47
          have H1 : (if a0 = 3 then (if x8_1.length < 140737488355328 then (q18z.l0 k1 a0 l1 l2 t259 (x8_1 ++ [!true]) t259 (t259.length : Int) (wrap64 (x19_1 + 1))) else (none)) else (if x8_1.length < 140737488355328 then (q18z.l0 k1 a0 l1 l2 t259 (x8_1 ++ [false]) t259 (t259.length : Int) (wrap64 (x19_1 + 1))) else (none))) = some r := by rw [if_neg (show ¬ (false = true) by decide)] at H; exact H
          clear H
          have H := H1
          clear H1
          by_cases c52 : a0 = 3
          ·
           rw [if_pos c52] at H
           have c52b0 : (a0 == 3) = true := beq_iff_eq.mpr c52
           have c52b1 : (a0 != 3) = false := bne_eq_false_iff_eq.mpr c52
           clear c52
           by_cases c53 : x8_1.length < 140737488355328
           ·
            rw [if_pos c53] at H
            have LMc53 := Aside0.mk c53
            clear c53
            obtain ⟨y286, hy286⟩ : ∃ y_ : List Bool, y_ = (x8_1 ++ [!true]) := ⟨_, rfl⟩
            replace H : (q18z.l0 k1 a0 l1 l2 t259 y286 t259 (t259.length : Int) (wrap64 (x19_1 + 1))) = some r := by first | (rw [hy286]; with_reducible exact H) | (have H2_ := (Option.bind_some _ _).symm.trans H; rw [hy286]; with_reducible exact H2_) | (have H2_ := (Option.bind_some _ _).symm.trans H; with_reducible exact H2_) | with_reducible exact H | (rw [hy286]; exact H) | exact H
            have Ny286 := Aside0.mk hy286
            clear hy286
            have H' := Aside0.mk H
            clear H
            have p262 : 0 ≤ (x19_1 : Int) := of_decide_eq_true (by first | (with_reducible assumption) | assumption)
            have q262 : x19_1 < (t259.length : Int) := of_decide_eq_true (by first | (with_reducible assumption) | assumption)
            obtain ⟨ad262, e262, hx262_0⟩ := Kd.at_int (Kd.R_reads' HO_17.out).2.2 x19_1 p262 q262
            cases e262
            replace p262 := eq_true p262
            replace q262 := eq_true q262
            go_wp2_with (first | ((with_reducible refine gate_callee (f := 17) rfl ?_); refine goesL_ (some 25) rfl rfl Try.func17 (by kernel_rfl) rfl #[.slice A1 l1.length c1, .int .u32 (rd t259 x19_1)] rfl (by (try simp only [List.map_toArray, List.map_cons, List.map_nil]); first | done | rfl | (simp only [List.length_drop, List.length_take]; rfl)) ?_; (with_reducible refine (q12z.calls k1 _ _ l1 (rd t259 x19_1) true _ ?side1 ?side2 A13.out).mono ?_); (case side1 => repeat (first | exact (Kd.V_reads' HO_1.out).2.2 | (with_reducible refine Kd.C_alloc ?_ _) | (with_reducible refine Kd.C_drewN ?_ _) | (with_reducible refine Kd.C_drew ?_))); (case side2 => exact (Kd.V_reads' HO_1.out).2.1); rintro e w54 ⟨rfl, hb⟩; refine ⟨_, rfl, ?_⟩; have n0_ := Aside0.mk (Kd.V_below (by (with_reducible repeat (first | apply Kd.V_alloc | apply Kd.V_drewN | apply Kd.V_drew)); exact HO_1.out) hb); have n1_ := Aside0.mk (Kd.V_below (by (with_reducible repeat (first | apply Kd.V_alloc | apply Kd.V_drewN | apply Kd.V_drew)); exact HO_2.out) hb); have n2_ := Aside0.mk (Kd.R_below (by (with_reducible repeat (first | apply Kd.R_alloc | apply Kd.R_drewN | apply Kd.R_drew)); exact HO_7.out) hb); have n3_ := Aside0.mk (Kd.R_below (by (with_reducible repeat (first | apply Kd.R_alloc | apply Kd.R_drewN | apply Kd.R_drew)); exact HO_8.out) hb); have n4_ := Aside0.mk (Kd.R_below (by (with_reducible repeat (first | apply Kd.R_alloc | apply Kd.R_drewN | apply Kd.R_drew)); exact HO_17.out) hb); have n5_ := Aside0.mk (below_step (by repeat (first | (with_reducible first | exact HB.out | apply below_alloc | apply pw_below_drewN | apply below_drew1) | exact HB.out)) hb); clear HO_1; clear HO_2; clear HO_7; clear HO_8; clear HO_17; clear HB; have HO_1 := n0_; have HO_2 := n1_; have HO_7 := n2_; have HO_8 := n3_; have HO_17 := n4_; have HB := n5_; clear n0_ n1_ n2_ n3_ n4_ n5_; (try clear hb); (try clear hb2); (try clear hk); (try clear hi)) | ((with_reducible refine gate_callee (f := 17) rfl ?_); refine goesL_ (some 28) rfl rfl Try.func17 (by kernel_rfl) rfl #[.slice A2 l2.length c2, .int .u32 (rd t259 x19_1)] rfl (by (try simp only [List.map_toArray, List.map_cons, List.map_nil]); first | done | rfl | (simp only [List.length_drop, List.length_take]; rfl)) ?_; (with_reducible refine (q12z.calls k1 _ _ l2 (rd t259 x19_1) false _ ?side1 ?side2 A14.out).mono ?_); (case side1 => repeat (first | exact (Kd.V_reads' HO_2.out).2.2 | (with_reducible refine Kd.C_alloc ?_ _) | (with_reducible refine Kd.C_drewN ?_ _) | (with_reducible refine Kd.C_drew ?_))); (case side2 => exact (Kd.V_reads' HO_2.out).2.1); rintro e w55 ⟨rfl, hb⟩; refine ⟨_, rfl, ?_⟩; have n0_ := Aside0.mk (Kd.V_below (by (with_reducible repeat (first | apply Kd.V_alloc | apply Kd.V_drewN | apply Kd.V_drew)); exact HO_1.out) hb); have n1_ := Aside0.mk (Kd.V_below (by (with_reducible repeat (first | apply Kd.V_alloc | apply Kd.V_drewN | apply Kd.V_drew)); exact HO_2.out) hb); have n2_ := Aside0.mk (Kd.R_below (by (with_reducible repeat (first | apply Kd.R_alloc | apply Kd.R_drewN | apply Kd.R_drew)); exact HO_7.out) hb); have n3_ := Aside0.mk (Kd.R_below (by (with_reducible repeat (first | apply Kd.R_alloc | apply Kd.R_drewN | apply Kd.R_drew)); exact HO_8.out) hb); have n4_ := Aside0.mk (Kd.R_below (by (with_reducible repeat (first | apply Kd.R_alloc | apply Kd.R_drewN | apply Kd.R_drew)); exact HO_17.out) hb); have n5_ := Aside0.mk (below_step (by repeat (first | (with_reducible first | exact HB.out | apply below_alloc | apply pw_below_drewN | apply below_drew1) | exact HB.out)) hb); clear HO_1; clear HO_2; clear HO_7; clear HO_8; clear HO_17; clear HB; have HO_1 := n0_; have HO_2 := n1_; have HO_7 := n2_; have HO_8 := n3_; have HO_17 := n4_; have HB := n5_; clear n0_ n1_ n2_ n3_ n4_ n5_; (try clear hb); (try clear hb2); (try clear hk); (try clear hi)) | ((with_reducible refine gate_builtin (b := .append) (xs := #[.tmp 29, .tmp 56]) rfl ?_); at_builtin; refine Kd.R_append Kd.bool (w0 := w) w.heap.size rfl (.tmp 29) (.tmp 56) 48 4 (.bool false) 1 rfl Try.underlying48 info4 rfl (by decide) (by omega) u8 x8_1 (!true) [.bool (!true)] (fun k_ => (w.heap.size ≤ k_)) (fun _ => False) rfl rfl ?aP (fun _ hk => hk.elim) ?aF ?aO ?aB ?aS ?aL ?_; (case aP => exact rfl); (case aB => exact (by repeat (first | (with_reducible first | exact HB.out | apply below_alloc | apply pw_below_drewN | apply below_drew1) | exact HB.out))); (case aF => exact (fun k_ hk => (Nat.le_trans (below_size (by repeat (first | (with_reducible first | exact HB.out | apply below_alloc | apply pw_below_drewN | apply below_drew1) | exact HB.out))) hk))); (case aO => exact (by (with_reducible repeat (first | apply Kd.R_alloc | apply Kd.R_drewN | apply Kd.R_drew)); exact HO_8.out)); (case aS => exact (below_size (by repeat (first | (with_reducible first | exact HB.out | apply below_alloc | apply pw_below_drewN | apply below_drew1) | exact HB.out)))); (case aL => have := LMc53.out; omega); intro v287 w56 ho hb hg hat; rw [← Ny286.out] at ho; have n0_ := Aside0.mk (Kd.V_afterv (ok := (fun k_ => ((P1_ k_ ∨ P2_ k_) ∨ w.heap.size ≤ k_) ∧ some k_ ≠ (.slice (some ad262) t259.length co9 : Value).ownBlock ∧ some k_ ≠ (.slice (some ad262) t259.length co9 : Value).ownBlock)) (by (with_reducible repeat (first | apply Kd.V_alloc | apply Kd.V_drewN | apply Kd.V_drew)); exact Kd.V_mono HO_1.out (fun _ hk => ⟨⟨hk.1, ⟨hk.2.1, hk.2.2.2⟩⟩, hk.2.2.1⟩)) hg hat); have n1_ := Aside0.mk (Kd.V_afterv (ok := (fun k_ => ((P1_ k_ ∨ P2_ k_) ∨ w.heap.size ≤ k_) ∧ some k_ ≠ (.slice (some ad262) t259.length co9 : Value).ownBlock ∧ some k_ ≠ (.slice (some ad262) t259.length co9 : Value).ownBlock)) (by (with_reducible repeat (first | apply Kd.V_alloc | apply Kd.V_drewN | apply Kd.V_drew)); exact Kd.V_mono HO_2.out (fun _ hk => ⟨⟨hk.1, ⟨hk.2.1, hk.2.2.2⟩⟩, hk.2.2.1⟩)) hg hat); have n2_ := Aside0.mk (Kd.R_over' (by (with_reducible repeat (first | apply Kd.R_alloc | apply Kd.R_drewN | apply Kd.R_drew)); exact HO_7.out) (Kd.R_typed (by (with_reducible repeat (first | apply Kd.R_alloc | apply Kd.R_drewN | apply Kd.R_drew)); exact HO_8.out)) (by decide) hg); have n3_ := Aside0.mk (Kd.R_over' (by (with_reducible repeat (first | apply Kd.R_alloc | apply Kd.R_drewN | apply Kd.R_drew)); exact HO_17.out) (Kd.R_typed (by (with_reducible repeat (first | apply Kd.R_alloc | apply Kd.R_drewN | apply Kd.R_drew)); exact HO_8.out)) (by decide) hg); have n4_ := Aside0.mk (hb); have n5_ := Aside0.mk (ho); clear HO_1; clear HO_2; clear HO_7; clear HO_17; clear HB; clear HO_8; have HO_1 := n0_; have HO_2 := n1_; have HO_7 := n2_; have HO_17 := n3_; have HB := n4_; have HO288 := n5_; clear n0_ n1_ n2_ n3_ n4_ n5_; clear ho hb hg hat))
            go_roundg k1
            case measure => have := HK1.out; omega
            case rel => exact ⟨(y286), (wrap64 (x19_1 + 1)), (by first | rfl | (simp; done) | (simp [*]; done)), H', ⟨by have := HK1.out; omega⟩, ⟨by (with_reducible repeat (first | apply Kd.V_alloc | apply Kd.V_drewN | apply Kd.V_drew)); exact Kd.V_mono HO_1.out (fun _ hk => ⟨hk.1.1, ⟨hk.1.2.1, ⟨hk.2, hk.1.2.2⟩⟩⟩)⟩, ⟨by (with_reducible repeat (first | apply Kd.V_alloc | apply Kd.V_drewN | apply Kd.V_drew)); exact Kd.V_mono HO_2.out (fun _ hk => ⟨hk.1.1, ⟨hk.1.2.1, ⟨hk.2, hk.1.2.2⟩⟩⟩)⟩, ⟨by (with_reducible repeat (first | apply Kd.R_alloc | apply Kd.R_drewN | apply Kd.R_drew)); exact HO_7.out⟩, ⟨by (with_reducible repeat (first | apply Kd.R_alloc | apply Kd.R_drewN | apply Kd.R_drew)); exact HO288.out⟩, ⟨by (with_reducible repeat (first | apply Kd.R_alloc | apply Kd.R_drewN | apply Kd.R_drew)); exact HO_17.out⟩, ⟨by repeat (first | (with_reducible first | exact HB.out | apply below_alloc | apply pw_below_drewN | apply below_drew1) | exact HB.out)⟩⟩
           ·
            rw [if_neg c53] at H
            exact absurd H (by simp)
          ·
           rw [if_neg c52] at H
           have c52b0 : (a0 == 3) = false := beq_eq_false_iff_ne.mpr c52
           have c52b1 : (a0 != 3) = true := bne_iff_ne.mpr c52
           by_cases c57 : x8_1.length < 140737488355328
           ·
            rw [if_pos c57] at H
            have LMc57 := Aside0.mk c57
            clear c57
            obtain ⟨y289, hy289⟩ : ∃ y_ : List Bool, y_ = (x8_1 ++ [false]) := ⟨_, rfl⟩
            replace H : (q18z.l0 k1 a0 l1 l2 t259 y289 t259 (t259.length : Int) (wrap64 (x19_1 + 1))) = some r := by first | (rw [hy289]; with_reducible exact H) | (have H2_ := (Option.bind_some _ _).symm.trans H; rw [hy289]; with_reducible exact H2_) | (have H2_ := (Option.bind_some _ _).symm.trans H; with_reducible exact H2_) | with_reducible exact H | (rw [hy289]; exact H) | exact H
            have Ny289 := Aside0.mk hy289
            clear hy289
            have H' := Aside0.mk H
            clear H
            have p262 : 0 ≤ (x19_1 : Int) := of_decide_eq_true (by first | (with_reducible assumption) | assumption)
            have q262 : x19_1 < (t259.length : Int) := of_decide_eq_true (by first | (with_reducible assumption) | assumption)
            obtain ⟨ad262, e262, hx262_0⟩ := Kd.at_int (Kd.R_reads' HO_17.out).2.2 x19_1 p262 q262
            cases e262
            replace p262 := eq_true p262
            replace q262 := eq_true q262
            go_wp2_with (first | ((with_reducible refine gate_callee (f := 17) rfl ?_); refine goesL_ (some 25) rfl rfl Try.func17 (by kernel_rfl) rfl #[.slice A1 l1.length c1, .int .u32 (rd t259 x19_1)] rfl (by (try simp only [List.map_toArray, List.map_cons, List.map_nil]); first | done | rfl | (simp only [List.length_drop, List.length_take]; rfl)) ?_; (with_reducible refine (q12z.calls k1 _ _ l1 (rd t259 x19_1) true _ ?side1 ?side2 A13.out).mono ?_); (case side1 => repeat (first | exact (Kd.V_reads' HO_1.out).2.2 | (with_reducible refine Kd.C_alloc ?_ _) | (with_reducible refine Kd.C_drewN ?_ _) | (with_reducible refine Kd.C_drew ?_))); (case side2 => exact (Kd.V_reads' HO_1.out).2.1); rintro e w58 ⟨rfl, hb⟩; refine ⟨_, rfl, ?_⟩; have n0_ := Aside0.mk (Kd.V_below (by (with_reducible repeat (first | apply Kd.V_alloc | apply Kd.V_drewN | apply Kd.V_drew)); exact HO_1.out) hb); have n1_ := Aside0.mk (Kd.V_below (by (with_reducible repeat (first | apply Kd.V_alloc | apply Kd.V_drewN | apply Kd.V_drew)); exact HO_2.out) hb); have n2_ := Aside0.mk (Kd.R_below (by (with_reducible repeat (first | apply Kd.R_alloc | apply Kd.R_drewN | apply Kd.R_drew)); exact HO_7.out) hb); have n3_ := Aside0.mk (Kd.R_below (by (with_reducible repeat (first | apply Kd.R_alloc | apply Kd.R_drewN | apply Kd.R_drew)); exact HO_8.out) hb); have n4_ := Aside0.mk (Kd.R_below (by (with_reducible repeat (first | apply Kd.R_alloc | apply Kd.R_drewN | apply Kd.R_drew)); exact HO_17.out) hb); have n5_ := Aside0.mk (below_step (by repeat (first | (with_reducible first | exact HB.out | apply below_alloc | apply pw_below_drewN | apply below_drew1) | exact HB.out)) hb); clear HO_1; clear HO_2; clear HO_7; clear HO_8; clear HO_17; clear HB; have HO_1 := n0_; have HO_2 := n1_; have HO_7 := n2_; have HO_8 := n3_; have HO_17 := n4_; have HB := n5_; clear n0_ n1_ n2_ n3_ n4_ n5_; (try clear hb); (try clear hb2); (try clear hk); (try clear hi)) | ((with_reducible refine gate_callee (f := 17) rfl ?_); refine goesL_ (some 28) rfl rfl Try.func17 (by kernel_rfl) rfl #[.slice A2 l2.length c2, .int .u32 (rd t259 x19_1)] rfl (by (try simp only [List.map_toArray, List.map_cons, List.map_nil]); first | done | rfl | (simp only [List.length_drop, List.length_take]; rfl)) ?_; (with_reducible refine (q12z.calls k1 _ _ l2 (rd t259 x19_1) false _ ?side1 ?side2 A14.out).mono ?_); (case side1 => repeat (first | exact (Kd.V_reads' HO_2.out).2.2 | (with_reducible refine Kd.C_alloc ?_ _) | (with_reducible refine Kd.C_drewN ?_ _) | (with_reducible refine Kd.C_drew ?_))); (case side2 => exact (Kd.V_reads' HO_2.out).2.1); rintro e w59 ⟨rfl, hb⟩; refine ⟨_, rfl, ?_⟩; have n0_ := Aside0.mk (Kd.V_below (by (with_reducible repeat (first | apply Kd.V_alloc | apply Kd.V_drewN | apply Kd.V_drew)); exact HO_1.out) hb); have n1_ := Aside0.mk (Kd.V_below (by (with_reducible repeat (first | apply Kd.V_alloc | apply Kd.V_drewN | apply Kd.V_drew)); exact HO_2.out) hb); have n2_ := Aside0.mk (Kd.R_below (by (with_reducible repeat (first | apply Kd.R_alloc | apply Kd.R_drewN | apply Kd.R_drew)); exact HO_7.out) hb); have n3_ := Aside0.mk (Kd.R_below (by (with_reducible repeat (first | apply Kd.R_alloc | apply Kd.R_drewN | apply Kd.R_drew)); exact HO_8.out) hb); have n4_ := Aside0.mk (Kd.R_below (by (with_reducible repeat (first | apply Kd.R_alloc | apply Kd.R_drewN | apply Kd.R_drew)); exact HO_17.out) hb); have n5_ := Aside0.mk (below_step (by repeat (first | (with_reducible first | exact HB.out | apply below_alloc | apply pw_below_drewN | apply below_drew1) | exact HB.out)) hb); clear HO_1; clear HO_2; clear HO_7; clear HO_8; clear HO_17; clear HB; have HO_1 := n0_; have HO_2 := n1_; have HO_7 := n2_; have HO_8 := n3_; have HO_17 := n4_; have HB := n5_; clear n0_ n1_ n2_ n3_ n4_ n5_; (try clear hb); (try clear hb2); (try clear hk); (try clear hi)) | ((with_reducible refine gate_builtin (b := .append) (xs := #[.tmp 29, .tmp 56]) rfl ?_); at_builtin; refine Kd.R_append Kd.bool (w0 := w) w.heap.size rfl (.tmp 29) (.tmp 56) 48 4 (.bool false) 1 rfl Try.underlying48 info4 rfl (by decide) (by omega) u8 x8_1 false [.bool false] (fun k_ => (w.heap.size ≤ k_)) (fun _ => False) rfl rfl ?aP (fun _ hk => hk.elim) ?aF ?aO ?aB ?aS ?aL ?_; (case aP => exact rfl); (case aB => exact (by repeat (first | (with_reducible first | exact HB.out | apply below_alloc | apply pw_below_drewN | apply below_drew1) | exact HB.out))); (case aF => exact (fun k_ hk => (Nat.le_trans (below_size (by repeat (first | (with_reducible first | exact HB.out | apply below_alloc | apply pw_below_drewN | apply below_drew1) | exact HB.out))) hk))); (case aO => exact (by (with_reducible repeat (first | apply Kd.R_alloc | apply Kd.R_drewN | apply Kd.R_drew)); exact HO_8.out)); (case aS => exact (below_size (by repeat (first | (with_reducible first | exact HB.out | apply below_alloc | apply pw_below_drewN | apply below_drew1) | exact HB.out)))); (case aL => have := LMc57.out; omega); intro v290 w60 ho hb hg hat; rw [← Ny289.out] at ho; have n0_ := Aside0.mk (Kd.V_afterv (ok := (fun k_ => ((P1_ k_ ∨ P2_ k_) ∨ w.heap.size ≤ k_) ∧ some k_ ≠ (.slice (some ad262) t259.length co9 : Value).ownBlock ∧ some k_ ≠ (.slice (some ad262) t259.length co9 : Value).ownBlock)) (by (with_reducible repeat (first | apply Kd.V_alloc | apply Kd.V_drewN | apply Kd.V_drew)); exact Kd.V_mono HO_1.out (fun _ hk => ⟨⟨hk.1, ⟨hk.2.1, hk.2.2.2⟩⟩, hk.2.2.1⟩)) hg hat); have n1_ := Aside0.mk (Kd.V_afterv (ok := (fun k_ => ((P1_ k_ ∨ P2_ k_) ∨ w.heap.size ≤ k_) ∧ some k_ ≠ (.slice (some ad262) t259.length co9 : Value).ownBlock ∧ some k_ ≠ (.slice (some ad262) t259.length co9 : Value).ownBlock)) (by (with_reducible repeat (first | apply Kd.V_alloc | apply Kd.V_drewN | apply Kd.V_drew)); exact Kd.V_mono HO_2.out (fun _ hk => ⟨⟨hk.1, ⟨hk.2.1, hk.2.2.2⟩⟩, hk.2.2.1⟩)) hg hat); have n2_ := Aside0.mk (Kd.R_over' (by (with_reducible repeat (first | apply Kd.R_alloc | apply Kd.R_drewN | apply Kd.R_drew)); exact HO_7.out) (Kd.R_typed (by (with_reducible repeat (first | apply Kd.R_alloc | apply Kd.R_drewN | apply Kd.R_drew)); exact HO_8.out)) (by decide) hg); have n3_ := Aside0.mk (Kd.R_over' (by (with_reducible repeat (first | apply Kd.R_alloc | apply Kd.R_drewN | apply Kd.R_drew)); exact HO_17.out) (Kd.R_typed (by (with_reducible repeat (first | apply Kd.R_alloc | apply Kd.R_drewN | apply Kd.R_drew)); exact HO_8.out)) (by decide) hg); have n4_ := Aside0.mk (hb); have n5_ := Aside0.mk (ho); clear HO_1; clear HO_2; clear HO_7; clear HO_17; clear HB; clear HO_8; have HO_1 := n0_; have HO_2 := n1_; have HO_7 := n2_; have HO_17 := n3_; have HB := n4_; have HO291 := n5_; clear n0_ n1_ n2_ n3_ n4_ n5_; clear ho hb hg hat))
            go_roundg k1
            case measure => have := HK1.out; omega
            case rel => exact ⟨(y289), (wrap64 (x19_1 + 1)), (by first | rfl | (simp; done) | (simp [*]; done)), H', ⟨by have := HK1.out; omega⟩, ⟨by (with_reducible repeat (first | apply Kd.V_alloc | apply Kd.V_drewN | apply Kd.V_drew)); exact Kd.V_mono HO_1.out (fun _ hk => ⟨hk.1.1, ⟨hk.1.2.1, ⟨hk.2, hk.1.2.2⟩⟩⟩)⟩, ⟨by (with_reducible repeat (first | apply Kd.V_alloc | apply Kd.V_drewN | apply Kd.V_drew)); exact Kd.V_mono HO_2.out (fun _ hk => ⟨hk.1.1, ⟨hk.1.2.1, ⟨hk.2, hk.1.2.2⟩⟩⟩)⟩, ⟨by (with_reducible repeat (first | apply Kd.R_alloc | apply Kd.R_drewN | apply Kd.R_drew)); exact HO_7.out⟩, ⟨by (with_reducible repeat (first | apply Kd.R_alloc | apply Kd.R_drewN | apply Kd.R_drew)); exact HO291.out⟩, ⟨by (with_reducible repeat (first | apply Kd.R_alloc | apply Kd.R_drewN | apply Kd.R_drew)); exact HO_17.out⟩, ⟨by repeat (first | (with_reducible first | exact HB.out | apply below_alloc | apply pw_below_drewN | apply below_drew1) | exact HB.out)⟩⟩
           ·
            rw [if_neg c57] at H
            exact absurd H (by simp)
        ·
         replace c46 := Bool.eq_false_iff.mpr c46
         subst c46
         have H1 : (if a0 = 3 then (if x8_1.length < 140737488355328 then (q18z.l0 k1 a0 l1 l2 t259 (x8_1 ++ [!false]) t259 (t259.length : Int) (wrap64 (x19_1 + 1))) else (none)) else (if x8_1.length < 140737488355328 then (q18z.l0 k1 a0 l1 l2 t259 (x8_1 ++ [false]) t259 (t259.length : Int) (wrap64 (x19_1 + 1))) else (none))) = some r := by rw [if_neg (show ¬ (false = true) by decide)] at H; exact H
         clear H
         have H := H1
         clear H1
         by_cases c61 : a0 = 3
         ·
          rw [if_pos c61] at H
          have c61b0 : (a0 == 3) = true := beq_iff_eq.mpr c61
          have c61b1 : (a0 != 3) = false := bne_eq_false_iff_eq.mpr c61
          clear c61
          by_cases c62 : x8_1.length < 140737488355328
          ·
           rw [if_pos c62] at H
           have LMc62 := Aside0.mk c62
           clear c62
           obtain ⟨y292, hy292⟩ : ∃ y_ : List Bool, y_ = (x8_1 ++ [!false]) := ⟨_, rfl⟩
           replace H : (q18z.l0 k1 a0 l1 l2 t259 y292 t259 (t259.length : Int) (wrap64 (x19_1 + 1))) = some r := by first | (rw [hy292]; with_reducible exact H) | (have H2_ := (Option.bind_some _ _).symm.trans H; rw [hy292]; with_reducible exact H2_) | (have H2_ := (Option.bind_some _ _).symm.trans H; with_reducible exact H2_) | with_reducible exact H | (rw [hy292]; exact H) | exact H
           have Ny292 := Aside0.mk hy292
           clear hy292
           have H' := Aside0.mk H
           clear H
           have p262 : 0 ≤ (x19_1 : Int) := of_decide_eq_true (by first | (with_reducible assumption) | assumption)
           have q262 : x19_1 < (t259.length : Int) := of_decide_eq_true (by first | (with_reducible assumption) | assumption)
           obtain ⟨ad262, e262, hx262_0⟩ := Kd.at_int (Kd.R_reads' HO_17.out).2.2 x19_1 p262 q262
           cases e262
           replace p262 := eq_true p262
           replace q262 := eq_true q262
           go_wp2_with (first | ((with_reducible refine gate_callee (f := 17) rfl ?_); refine goesL_ (some 25) rfl rfl Try.func17 (by kernel_rfl) rfl #[.slice A1 l1.length c1, .int .u32 (rd t259 x19_1)] rfl (by (try simp only [List.map_toArray, List.map_cons, List.map_nil]); first | done | rfl | (simp only [List.length_drop, List.length_take]; rfl)) ?_; (with_reducible refine (q12z.calls k1 _ _ l1 (rd t259 x19_1) false _ ?side1 ?side2 A13.out).mono ?_); (case side1 => repeat (first | exact (Kd.V_reads' HO_1.out).2.2 | (with_reducible refine Kd.C_alloc ?_ _) | (with_reducible refine Kd.C_drewN ?_ _) | (with_reducible refine Kd.C_drew ?_))); (case side2 => exact (Kd.V_reads' HO_1.out).2.1); rintro e w63 ⟨rfl, hb⟩; refine ⟨_, rfl, ?_⟩; have n0_ := Aside0.mk (Kd.V_below (by (with_reducible repeat (first | apply Kd.V_alloc | apply Kd.V_drewN | apply Kd.V_drew)); exact HO_1.out) hb); have n1_ := Aside0.mk (Kd.V_below (by (with_reducible repeat (first | apply Kd.V_alloc | apply Kd.V_drewN | apply Kd.V_drew)); exact HO_2.out) hb); have n2_ := Aside0.mk (Kd.R_below (by (with_reducible repeat (first | apply Kd.R_alloc | apply Kd.R_drewN | apply Kd.R_drew)); exact HO_7.out) hb); have n3_ := Aside0.mk (Kd.R_below (by (with_reducible repeat (first | apply Kd.R_alloc | apply Kd.R_drewN | apply Kd.R_drew)); exact HO_8.out) hb); have n4_ := Aside0.mk (Kd.R_below (by (with_reducible repeat (first | apply Kd.R_alloc | apply Kd.R_drewN | apply Kd.R_drew)); exact HO_17.out) hb); have n5_ := Aside0.mk (below_step (by repeat (first | (with_reducible first | exact HB.out | apply below_alloc | apply pw_below_drewN | apply below_drew1) | exact HB.out)) hb); clear HO_1; clear HO_2; clear HO_7; clear HO_8; clear HO_17; clear HB; have HO_1 := n0_; have HO_2 := n1_; have HO_7 := n2_; have HO_8 := n3_; have HO_17 := n4_; have HB := n5_; clear n0_ n1_ n2_ n3_ n4_ n5_; (try clear hb); (try clear hb2); (try clear hk); (try clear hi)) | ((with_reducible refine gate_callee (f := 17) rfl ?_); refine goesL_ (some 28) rfl rfl Try.func17 (by kernel_rfl) rfl #[.slice A2 l2.length c2, .int .u32 (rd t259 x19_1)] rfl (by (try simp only [List.map_toArray, List.map_cons, List.map_nil]); first | done | rfl | (simp only [List.length_drop, List.length_take]; rfl)) ?_; (with_reducible refine (q12z.calls k1 _ _ l2 (rd t259 x19_1) t264 _ ?side1 ?side2 A14.out).mono ?_); (case side1 => repeat (first | exact (Kd.V_reads' HO_2.out).2.2 | (with_reducible refine Kd.C_alloc ?_ _) | (with_reducible refine Kd.C_drewN ?_ _) | (with_reducible refine Kd.C_drew ?_))); (case side2 => exact (Kd.V_reads' HO_2.out).2.1); rintro e w64 ⟨rfl, hb⟩; refine ⟨_, rfl, ?_⟩; have n0_ := Aside0.mk (Kd.V_below (by (with_reducible repeat (first | apply Kd.V_alloc | apply Kd.V_drewN | apply Kd.V_drew)); exact HO_1.out) hb); have n1_ := Aside0.mk (Kd.V_below (by (with_reducible repeat (first | apply Kd.V_alloc | apply Kd.V_drewN | apply Kd.V_drew)); exact HO_2.out) hb); have n2_ := Aside0.mk (Kd.R_below (by (with_reducible repeat (first | apply Kd.R_alloc | apply Kd.R_drewN | apply Kd.R_drew)); exact HO_7.out) hb); have n3_ := Aside0.mk (Kd.R_below (by (with_reducible repeat (first | apply Kd.R_alloc | apply Kd.R_drewN | apply Kd.R_drew)); exact HO_8.out) hb); have n4_ := Aside0.mk (Kd.R_below (by (with_reducible repeat (first | apply Kd.R_alloc | apply Kd.R_drewN | apply Kd.R_drew)); exact HO_17.out) hb); have n5_ := Aside0.mk (below_step (by repeat (first | (with_reducible first | exact HB.out | apply below_alloc | apply pw_below_drewN | apply below_drew1) | exact HB.out)) hb); clear HO_1; clear HO_2; clear HO_7; clear HO_8; clear HO_17; clear HB; have HO_1 := n0_; have HO_2 := n1_; have HO_7 := n2_; have HO_8 := n3_; have HO_17 := n4_; have HB := n5_; clear n0_ n1_ n2_ n3_ n4_ n5_; (try clear hb); (try clear hb2); (try clear hk); (try clear hi)) | ((with_reducible refine gate_builtin (b := .append) (xs := #[.tmp 29, .tmp 56]) rfl ?_); at_builtin; refine Kd.R_append Kd.bool (w0 := w) w.heap.size rfl (.tmp 29) (.tmp 56) 48 4 (.bool false) 1 rfl Try.underlying48 info4 rfl (by decide) (by omega) u8 x8_1 (!false) [.bool (!false)] (fun k_ => (w.heap.size ≤ k_)) (fun _ => False) rfl rfl ?aP (fun _ hk => hk.elim) ?aF ?aO ?aB ?aS ?aL ?_; (case aP => exact rfl); (case aB => exact (by repeat (first | (with_reducible first | exact HB.out | apply below_alloc | apply pw_below_drewN | apply below_drew1) | exact HB.out))); (case aF => exact (fun k_ hk => (Nat.le_trans (below_size (by repeat (first | (with_reducible first | exact HB.out | apply below_alloc | apply pw_below_drewN | apply below_drew1) | exact HB.out))) hk))); (case aO => exact (by (with_reducible repeat (first | apply Kd.R_alloc | apply Kd.R_drewN | apply Kd.R_drew)); exact HO_8.out)); (case aS => exact (below_size (by repeat (first | (with_reducible first | exact HB.out | apply below_alloc | apply pw_below_drewN | apply below_drew1) | exact HB.out)))); (case aL => have := LMc62.out; omega); intro v293 w65 ho hb hg hat; rw [← Ny292.out] at ho; have n0_ := Aside0.mk (Kd.V_afterv (ok := (fun k_ => ((P1_ k_ ∨ P2_ k_) ∨ w.heap.size ≤ k_) ∧ some k_ ≠ (.slice (some ad262) t259.length co9 : Value).ownBlock ∧ some k_ ≠ (.slice (some ad262) t259.length co9 : Value).ownBlock)) (by (with_reducible repeat (first | apply Kd.V_alloc | apply Kd.V_drewN | apply Kd.V_drew)); exact Kd.V_mono HO_1.out (fun _ hk => ⟨⟨hk.1, ⟨hk.2.1, hk.2.2.2⟩⟩, hk.2.2.1⟩)) hg hat); have n1_ := Aside0.mk (Kd.V_afterv (ok := (fun k_ => ((P1_ k_ ∨ P2_ k_) ∨ w.heap.size ≤ k_) ∧ some k_ ≠ (.slice (some ad262) t259.length co9 : Value).ownBlock ∧ some k_ ≠ (.slice (some ad262) t259.length co9 : Value).ownBlock)) (by (with_reducible repeat (first | apply Kd.V_alloc | apply Kd.V_drewN | apply Kd.V_drew)); exact Kd.V_mono HO_2.out (fun _ hk => ⟨⟨hk.1, ⟨hk.2.1, hk.2.2.2⟩⟩, hk.2.2.1⟩)) hg hat); have n2_ := Aside0.mk (Kd.R_over' (by (with_reducible repeat (first | apply Kd.R_alloc | apply Kd.R_drewN | apply Kd.R_drew)); exact HO_7.out) (Kd.R_typed (by (with_reducible repeat (first | apply Kd.R_alloc | apply Kd.R_drewN | apply Kd.R_drew)); exact HO_8.out)) (by decide) hg); have n3_ := Aside0.mk (Kd.R_over' (by (with_reducible repeat (first | apply Kd.R_alloc | apply Kd.R_drewN | apply Kd.R_drew)); exact HO_17.out) (Kd.R_typed (by (with_reducible repeat (first | apply Kd.R_alloc | apply Kd.R_drewN | apply Kd.R_drew)); exact HO_8.out)) (by decide) hg); have n4_ := Aside0.mk (hb); have n5_ := Aside0.mk (ho); clear HO_1; clear HO_2; clear HO_7; clear HO_17; clear HB; clear HO_8; have HO_1 := n0_; have HO_2 := n1_; have HO_7 := n2_; have HO_17 := n3_; have HB := n4_; have HO294 := n5_; clear n0_ n1_ n2_ n3_ n4_ n5_; clear ho hb hg hat))
           go_roundg k1
           case measure => have := HK1.out; omega
           case rel => exact ⟨(y292), (wrap64 (x19_1 + 1)), (by first | rfl | (simp; done) | (simp [*]; done)), H', ⟨by have := HK1.out; omega⟩, ⟨by (with_reducible repeat (first | apply Kd.V_alloc | apply Kd.V_drewN | apply Kd.V_drew)); exact Kd.V_mono HO_1.out (fun _ hk => ⟨hk.1.1, ⟨hk.1.2.1, ⟨hk.2, hk.1.2.2⟩⟩⟩)⟩, ⟨by (with_reducible repeat (first | apply Kd.V_alloc | apply Kd.V_drewN | apply Kd.V_drew)); exact Kd.V_mono HO_2.out (fun _ hk => ⟨hk.1.1, ⟨hk.1.2.1, ⟨hk.2, hk.1.2.2⟩⟩⟩)⟩, ⟨by (with_reducible repeat (first | apply Kd.R_alloc | apply Kd.R_drewN | apply Kd.R_drew)); exact HO_7.out⟩, ⟨by (with_reducible repeat (first | apply Kd.R_alloc | apply Kd.R_drewN | apply Kd.R_drew)); exact HO294.out⟩, ⟨by (with_reducible repeat (first | apply Kd.R_alloc | apply Kd.R_drewN | apply Kd.R_drew)); exact HO_17.out⟩, ⟨by repeat (first | (with_reducible first | exact HB.out | apply below_alloc | apply pw_below_drewN | apply below_drew1) | exact HB.out)⟩⟩
          ·
           rw [if_neg c62] at H
           exact absurd H (by simp)
         ·
          rw [if_neg c61] at H
          have c61b0 : (a0 == 3) = false := beq_eq_false_iff_ne.mpr c61
          have c61b1 : (a0 != 3) = true := bne_iff_ne.mpr c61
          by_cases c66 : x8_1.length < 140737488355328
          ·
           rw [if_pos c66] at H
           have LMc66 := Aside0.mk c66
           clear c66
           obtain ⟨y295, hy295⟩ : ∃ y_ : List Bool, y_ = (x8_1 ++ [false]) := ⟨_, rfl⟩
           replace H : (q18z.l0 k1 a0 l1 l2 t259 y295 t259 (t259.length : Int) (wrap64 (x19_1 + 1))) = some r := by first | (rw [hy295]; with_reducible exact H) | (have H2_ := (Option.bind_some _ _).symm.trans H; rw [hy295]; with_reducible exact H2_) | (have H2_ := (Option.bind_some _ _).symm.trans H; with_reducible exact H2_) | with_reducible exact H | (rw [hy295]; exact H) | exact H
           have Ny295 := Aside0.mk hy295
           clear hy295
           have H' := Aside0.mk H
           clear H
           have p262 : 0 ≤ (x19_1 : Int) := of_decide_eq_true (by first | (with_reducible assumption) | assumption)
           have q262 : x19_1 < (t259.length : Int) := of_decide_eq_true (by first | (with_reducible assumption) | assumption)
           obtain ⟨ad262, e262, hx262_0⟩ := Kd.at_int (Kd.R_reads' HO_17.out).2.2 x19_1 p262 q262
           cases e262
           replace p262 := eq_true p262
           replace q262 := eq_true q262
           go_wp2_with (first | ((with_reducible refine gate_callee (f := 17) rfl ?_); refine goesL_ (some 25) rfl rfl Try.func17 (by kernel_rfl) rfl #[.slice A1 l1.length c1, .int .u32 (rd t259 x19_1)] rfl (by (try simp only [List.map_toArray, List.map_cons, List.map_nil]); first | done | rfl | (simp only [List.length_drop, List.length_take]; rfl)) ?_; (with_reducible refine (q12z.calls k1 _ _ l1 (rd t259 x19_1) false _ ?side1 ?side2 A13.out).mono ?_); (case side1 => repeat (first | exact (Kd.V_reads' HO_1.out).2.2 | (with_reducible refine Kd.C_alloc ?_ _) | (with_reducible refine Kd.C_drewN ?_ _) | (with_reducible refine Kd.C_drew ?_))); (case side2 => exact (Kd.V_reads' HO_1.out).2.1); rintro e w67 ⟨rfl, hb⟩; refine ⟨_, rfl, ?_⟩; have n0_ := Aside0.mk (Kd.V_below (by (with_reducible repeat (first | apply Kd.V_alloc | apply Kd.V_drewN | apply Kd.V_drew)); exact HO_1.out) hb); have n1_ := Aside0.mk (Kd.V_below (by (with_reducible repeat (first | apply Kd.V_alloc | apply Kd.V_drewN | apply Kd.V_drew)); exact HO_2.out) hb); have n2_ := Aside0.mk (Kd.R_below (by (with_reducible repeat (first | apply Kd.R_alloc | apply Kd.R_drewN | apply Kd.R_drew)); exact HO_7.out) hb); have n3_ := Aside0.mk (Kd.R_below (by (with_reducible repeat (first | apply Kd.R_alloc | apply Kd.R_drewN | apply Kd.R_drew)); exact HO_8.out) hb); have n4_ := Aside0.mk (Kd.R_below (by (with_reducible repeat (first | apply Kd.R_alloc | apply Kd.R_drewN | apply Kd.R_drew)); exact HO_17.out) hb); have n5_ := Aside0.mk (below_step (by repeat (first | (with_reducible first | exact HB.out | apply below_alloc | apply pw_below_drewN | apply below_drew1) | exact HB.out)) hb); clear HO_1; clear HO_2; clear HO_7; clear HO_8; clear HO_17; clear HB; have HO_1 := n0_; have HO_2 := n1_; have HO_7 := n2_; have HO_8 := n3_; have HO_17 := n4_; have HB := n5_; clear n0_ n1_ n2_ n3_ n4_ n5_; (try clear hb); (try clear hb2); (try clear hk); (try clear hi)) | ((with_reducible refine gate_callee (f := 17) rfl ?_); refine goesL_ (some 28) rfl rfl Try.func17 (by kernel_rfl) rfl #[.slice A2 l2.length c2, .int .u32 (rd t259 x19_1)] rfl (by (try simp only [List.map_toArray, List.map_cons, List.map_nil]); first | done | rfl | (simp only [List.length_drop, List.length_take]; rfl)) ?_; (with_reducible refine (q12z.calls k1 _ _ l2 (rd t259 x19_1) t264 _ ?side1 ?side2 A14.out).mono ?_); (case side1 => repeat (first | exact (Kd.V_reads' HO_2.out).2.2 | (with_reducible refine Kd.C_alloc ?_ _) | (with_reducible refine Kd.C_drewN ?_ _) | (with_reducible refine Kd.C_drew ?_))); (case side2 => exact (Kd.V_reads' HO_2.out).2.1); rintro e w68 ⟨rfl, hb⟩; refine ⟨_, rfl, ?_⟩; have n0_ := Aside0.mk (Kd.V_below (by (with_reducible repeat (first | apply Kd.V_alloc | apply Kd.V_drewN | apply Kd.V_drew)); exact HO_1.out) hb); have n1_ := Aside0.mk (Kd.V_below (by (with_reducible repeat (first | apply Kd.V_alloc | apply Kd.V_drewN | apply Kd.V_drew)); exact HO_2.out) hb); have n2_ := Aside0.mk (Kd.R_below (by (with_reducible repeat (first | apply Kd.R_alloc | apply Kd.R_drewN | apply Kd.R_drew)); exact HO_7.out) hb); have n3_ := Aside0.mk (Kd.R_below (by (with_reducible repeat (first | apply Kd.R_alloc | apply Kd.R_drewN | apply Kd.R_drew)); exact HO_8.out) hb); have n4_ := Aside0.mk (Kd.R_below (by (with_reducible repeat (first | apply Kd.R_alloc | apply Kd.R_drewN | apply Kd.R_drew)); exact HO_17.out) hb); have n5_ := Aside0.mk (below_step (by repeat (first | (with_reducible first | exact HB.out | apply below_alloc | apply pw_below_drewN | apply below_drew1) | exact HB.out)) hb); clear HO_1; clear HO_2; clear HO_7; clear HO_8; clear HO_17; clear HB; have HO_1 := n0_; have HO_2 := n1_; have HO_7 := n2_; have HO_8 := n3_; have HO_17 := n4_; have HB := n5_; clear n0_ n1_ n2_ n3_ n4_ n5_; (try clear hb); (try clear hb2); (try clear hk); (try clear hi)) | ((with_reducible refine gate_builtin (b := .append) (xs := #[.tmp 29, .tmp 56]) rfl ?_); at_builtin; refine Kd.R_append Kd.bool (w0 := w) w.heap.size rfl (.tmp 29) (.tmp 56) 48 4 (.bool false) 1 rfl Try.underlying48 info4 rfl (by decide) (by omega) u8 x8_1 false [.bool false] (fun k_ => (w.heap.size ≤ k_)) (fun _ => False) rfl rfl ?aP (fun _ hk => hk.elim) ?aF ?aO ?aB ?aS ?aL ?_; (case aP => exact rfl); (case aB => exact (by repeat (first | (with_reducible first | exact HB.out | apply below_alloc | apply pw_below_drewN | apply below_drew1) | exact HB.out))); (case aF => exact (fun k_ hk => (Nat.le_trans (below_size (by repeat (first | (with_reducible first | exact HB.out | apply below_alloc | apply pw_below_drewN | apply below_drew1) | exact HB.out))) hk))); (case aO => exact (by (with_reducible repeat (first | apply Kd.R_alloc | apply Kd.R_drewN | apply Kd.R_drew)); exact HO_8.out)); (case aS => exact (below_size (by repeat (first | (with_reducible first | exact HB.out | apply below_alloc | apply pw_below_drewN | apply below_drew1) | exact HB.out)))); (case aL => have := LMc66.out; omega); intro v296 w69 ho hb hg hat; rw [← Ny295.out] at ho; have n0_ := Aside0.mk (Kd.V_afterv (ok := (fun k_ => ((P1_ k_ ∨ P2_ k_) ∨ w.heap.size ≤ k_) ∧ some k_ ≠ (.slice (some ad262) t259.length co9 : Value).ownBlock ∧ some k_ ≠ (.slice (some ad262) t259.length co9 : Value).ownBlock)) (by (with_reducible repeat (first | apply Kd.V_alloc | apply Kd.V_drewN | apply Kd.V_drew)); exact Kd.V_mono HO_1.out (fun _ hk => ⟨⟨hk.1, ⟨hk.2.1, hk.2.2.2⟩⟩, hk.2.2.1⟩)) hg hat); have n1_ := Aside0.mk (Kd.V_afterv (ok := (fun k_ => ((P1_ k_ ∨ P2_ k_) ∨ w.heap.size ≤ k_) ∧ some k_ ≠ (.slice (some ad262) t259.length co9 : Value).ownBlock ∧ some k_ ≠ (.slice (some ad262) t259.length co9 : Value).ownBlock)) (by (with_reducible repeat (first | apply Kd.V_alloc | apply Kd.V_drewN | apply Kd.V_drew)); exact Kd.V_mono HO_2.out (fun _ hk => ⟨⟨hk.1, ⟨hk.2.1, hk.2.2.2⟩⟩, hk.2.2.1⟩)) hg hat); have n2_ := Aside0.mk (Kd.R_over' (by (with_reducible repeat (first | apply Kd.R_alloc | apply Kd.R_drewN | apply Kd.R_drew)); exact HO_7.out) (Kd.R_typed (by (with_reducible repeat (first | apply Kd.R_alloc | apply Kd.R_drewN | apply Kd.R_drew)); exact HO_8.out)) (by decide) hg); have n3_ := Aside0.mk (Kd.R_over' (by (with_reducible repeat (first | apply Kd.R_alloc | apply Kd.R_drewN | apply Kd.R_drew)); exact HO_17.out) (Kd.R_typed (by (with_reducible repeat (first | apply Kd.R_alloc | apply Kd.R_drewN | apply Kd.R_drew)); exact HO_8.out)) (by decide) hg); have n4_ := Aside0.mk (hb); have n5_ := Aside0.mk (ho); clear HO_1; clear HO_2; clear HO_7; clear HO_17; clear HB; clear HO_8; have HO_1 := n0_; have HO_2 := n1_; have HO_7 := n2_; have HO_17 := n3_; have HB := n4_; have HO297 := n5_; clear n0_ n1_ n2_ n3_ n4_ n5_; clear ho hb hg hat))
           go_roundg k1
           case measure => have := HK1.out; omega
           case rel => exact ⟨(y295), (wrap64 (x19_1 + 1)), (by first | rfl | (simp; done) | (simp [*]; done)), H', ⟨by have := HK1.out; omega⟩, ⟨by (with_reducible repeat (first | apply Kd.V_alloc | apply Kd.V_drewN | apply Kd.V_drew)); exact Kd.V_mono HO_1.out (fun _ hk => ⟨hk.1.1, ⟨hk.1.2.1, ⟨hk.2, hk.1.2.2⟩⟩⟩)⟩, ⟨by (with_reducible repeat (first | apply Kd.V_alloc | apply Kd.V_drewN | apply Kd.V_drew)); exact Kd.V_mono HO_2.out (fun _ hk => ⟨hk.1.1, ⟨hk.1.2.1, ⟨hk.2, hk.1.2.2⟩⟩⟩)⟩, ⟨by (with_reducible repeat (first | apply Kd.R_alloc | apply Kd.R_drewN | apply Kd.R_drew)); exact HO_7.out⟩, ⟨by (with_reducible repeat (first | apply Kd.R_alloc | apply Kd.R_drewN | apply Kd.R_drew)); exact HO297.out⟩, ⟨by (with_reducible repeat (first | apply Kd.R_alloc | apply Kd.R_drewN | apply Kd.R_drew)); exact HO_17.out⟩, ⟨by repeat (first | (with_reducible first | exact HB.out | apply below_alloc | apply pw_below_drewN | apply below_drew1) | exact HB.out)⟩⟩
          ·
           rw [if_neg c66] at H
           exact absurd H (by simp)
       ·
        rw [if_neg c45] at H
        have c45b0 : (a0 == 2) = false := beq_eq_false_iff_ne.mpr c45
        have c45b1 : (a0 != 2) = true := bne_iff_ne.mpr c45
        by_cases c70 : a0 = 3
        ·
         rw [if_pos c70] at H
         have c70b0 : (a0 == 3) = true := beq_iff_eq.mpr c70
         have c70b1 : (a0 != 3) = false := bne_eq_false_iff_eq.mpr c70
         clear c70
         by_cases c71 : x8_1.length < 140737488355328
         ·
          rw [if_pos c71] at H
          have LMc71 := Aside0.mk c71
          clear c71
          obtain ⟨y298, hy298⟩ : ∃ y_ : List Bool, y_ = (x8_1 ++ [!t263]) := ⟨_, rfl⟩
          replace H : (q18z.l0 k1 a0 l1 l2 t259 y298 t259 (t259.length : Int) (wrap64 (x19_1 + 1))) = some r := by first | (rw [hy298]; with_reducible exact H) | (have H2_ := (Option.bind_some _ _).symm.trans H; rw [hy298]; with_reducible exact H2_) | (have H2_ := (Option.bind_some _ _).symm.trans H; with_reducible exact H2_) | with_reducible exact H | (rw [hy298]; exact H) | exact H
          have Ny298 := Aside0.mk hy298
          clear hy298
          have H' := Aside0.mk H
          clear H
          have p262 : 0 ≤ (x19_1 : Int) := of_decide_eq_true (by first | (with_reducible assumption) | assumption)
          have q262 : x19_1 < (t259.length : Int) := of_decide_eq_true (by first | (with_reducible assumption) | assumption)
          obtain ⟨ad262, e262, hx262_0⟩ := Kd.at_int (Kd.R_reads' HO_17.out).2.2 x19_1 p262 q262
          cases e262
          replace p262 := eq_true p262
          replace q262 := eq_true q262
          go_wp2_with (first | ((with_reducible refine gate_callee (f := 17) rfl ?_); refine goesL_ (some 25) rfl rfl Try.func17 (by kernel_rfl) rfl #[.slice A1 l1.length c1, .int .u32 (rd t259 x19_1)] rfl (by (try simp only [List.map_toArray, List.map_cons, List.map_nil]); first | done | rfl | (simp only [List.length_drop, List.length_take]; rfl)) ?_; (with_reducible refine (q12z.calls k1 _ _ l1 (rd t259 x19_1) t263 _ ?side1 ?side2 A13.out).mono ?_); (case side1 => repeat (first | exact (Kd.V_reads' HO_1.out).2.2 | (with_reducible refine Kd.C_alloc ?_ _) | (with_reducible refine Kd.C_drewN ?_ _) | (with_reducible refine Kd.C_drew ?_))); (case side2 => exact (Kd.V_reads' HO_1.out).2.1); rintro e w72 ⟨rfl, hb⟩; refine ⟨_, rfl, ?_⟩; have n0_ := Aside0.mk (Kd.V_below (by (with_reducible repeat (first | apply Kd.V_alloc | apply Kd.V_drewN | apply Kd.V_drew)); exact HO_1.out) hb); have n1_ := Aside0.mk (Kd.V_below (by (with_reducible repeat (first | apply Kd.V_alloc | apply Kd.V_drewN | apply Kd.V_drew)); exact HO_2.out) hb); have n2_ := Aside0.mk (Kd.R_below (by (with_reducible repeat (first | apply Kd.R_alloc | apply Kd.R_drewN | apply Kd.R_drew)); exact HO_7.out) hb); have n3_ := Aside0.mk (Kd.R_below (by (with_reducible repeat (first | apply Kd.R_alloc | apply Kd.R_drewN | apply Kd.R_drew)); exact HO_8.out) hb); have n4_ := Aside0.mk (Kd.R_below (by (with_reducible repeat (first | apply Kd.R_alloc | apply Kd.R_drewN | apply Kd.R_drew)); exact HO_17.out) hb); have n5_ := Aside0.mk (below_step (by repeat (first | (with_reducible first | exact HB.out | apply below_alloc | apply pw_below_drewN | apply below_drew1) | exact HB.out)) hb); clear HO_1; clear HO_2; clear HO_7; clear HO_8; clear HO_17; clear HB; have HO_1 := n0_; have HO_2 := n1_; have HO_7 := n2_; have HO_8 := n3_; have HO_17 := n4_; have HB := n5_; clear n0_ n1_ n2_ n3_ n4_ n5_; (try clear hb); (try clear hb2); (try clear hk); (try clear hi)) | ((with_reducible refine gate_callee (f := 17) rfl ?_); refine goesL_ (some 28) rfl rfl Try.func17 (by kernel_rfl) rfl #[.slice A2 l2.length c2, .int .u32 (rd t259 x19_1)] rfl (by (try simp only [List.map_toArray, List.map_cons, List.map_nil]); first | done | rfl | (simp only [List.length_drop, List.length_take]; rfl)) ?_; (with_reducible refine (q12z.calls k1 _ _ l2 (rd t259 x19_1) t264 _ ?side1 ?side2 A14.out).mono ?_); (case side1 => repeat (first | exact (Kd.V_reads' HO_2.out).2.2 | (with_reducible refine Kd.C_alloc ?_ _) | (with_reducible refine Kd.C_drewN ?_ _) | (with_reducible refine Kd.C_drew ?_))); (case side2 => exact (Kd.V_reads' HO_2.out).2.1); rintro e w73 ⟨rfl, hb⟩; refine ⟨_, rfl, ?_⟩; have n0_ := Aside0.mk (Kd.V_below (by (with_reducible repeat (first | apply Kd.V_alloc | apply Kd.V_drewN | apply Kd.V_drew)); exact HO_1.out) hb); have n1_ := Aside0.mk (Kd.V_below (by (with_reducible repeat (first | apply Kd.V_alloc | apply Kd.V_drewN | apply Kd.V_drew)); exact HO_2.out) hb); have n2_ := Aside0.mk (Kd.R_below (by (with_reducible repeat (first | apply Kd.R_alloc | apply Kd.R_drewN | apply Kd.R_drew)); exact HO_7.out) hb); have n3_ := Aside0.mk (Kd.R_below (by (with_reducible repeat (first | apply Kd.R_alloc | apply Kd.R_drewN | apply Kd.R_drew)); exact HO_8.out) hb); have n4_ := Aside0.mk (Kd.R_below (by (with_reducible repeat (first | apply Kd.R_alloc | apply Kd.R_drewN | apply Kd.R_drew)); exact HO_17.out) hb); have n5_ := Aside0.mk (below_step (by repeat (first | (with_reducible first | exact HB.out | apply below_alloc | apply pw_below_drewN | apply below_drew1) | exact HB.out)) hb); clear HO_1; clear HO_2; clear HO_7; clear HO_8; clear HO_17; clear HB; have HO_1 := n0_; have HO_2 := n1_; have HO_7 := n2_; have HO_8 := n3_; have HO_17 := n4_; have HB := n5_; clear n0_ n1_ n2_ n3_ n4_ n5_; (try clear hb); (try clear hb2); (try clear hk); (try clear hi)) | ((with_reducible refine gate_builtin (b := .append) (xs := #[.tmp 29, .tmp 56]) rfl ?_); at_builtin; refine Kd.R_append Kd.bool (w0 := w) w.heap.size rfl (.tmp 29) (.tmp 56) 48 4 (.bool false) 1 rfl Try.underlying48 info4 rfl (by decide) (by omega) u8 x8_1 (!t263) [.bool (!t263)] (fun k_ => (w.heap.size ≤ k_)) (fun _ => False) rfl rfl ?aP (fun _ hk => hk.elim) ?aF ?aO ?aB ?aS ?aL ?_; (case aP => exact rfl); (case aB => exact (by repeat (first | (with_reducible first | exact HB.out | apply below_alloc | apply pw_below_drewN | apply below_drew1) | exact HB.out))); (case aF => exact (fun k_ hk => (Nat.le_trans (below_size (by repeat (first | (with_reducible first | exact HB.out | apply below_alloc | apply pw_below_drewN | apply below_drew1) | exact HB.out))) hk))); (case aO => exact (by (with_reducible repeat (first | apply Kd.R_alloc | apply Kd.R_drewN | apply Kd.R_drew)); exact HO_8.out)); (case aS => exact (below_size (by repeat (first | (with_reducible first | exact HB.out | apply below_alloc | apply pw_below_drewN | apply below_drew1) | exact HB.out)))); (case aL => have := LMc71.out; omega); intro v299 w74 ho hb hg hat; rw [← Ny298.out] at ho; have n0_ := Aside0.mk (Kd.V_afterv (ok := (fun k_ => ((P1_ k_ ∨ P2_ k_) ∨ w.heap.size ≤ k_) ∧ some k_ ≠ (.slice (some ad262) t259.length co9 : Value).ownBlock ∧ some k_ ≠ (.slice (some ad262) t259.length co9 : Value).ownBlock)) (by (with_reducible repeat (first | apply Kd.V_alloc | apply Kd.V_drewN | apply Kd.V_drew)); exact Kd.V_mono HO_1.out (fun _ hk => ⟨⟨hk.1, ⟨hk.2.1, hk.2.2.2⟩⟩, hk.2.2.1⟩)) hg hat); have n1_ := Aside0.mk (Kd.V_afterv (ok := (fun k_ => ((P1_ k_ ∨ P2_ k_) ∨ w.heap.size ≤ k_) ∧ some k_ ≠ (.slice (some ad262) t259.length co9 : Value).ownBlock ∧ some k_ ≠ (.slice (some ad262) t259.length co9 : Value).ownBlock)) (by (with_reducible repeat (first | apply Kd.V_alloc | apply Kd.V_drewN | apply Kd.V_drew)); exact Kd.V_mono HO_2.out (fun _ hk => ⟨⟨hk.1, ⟨hk.2.1, hk.2.2.2⟩⟩, hk.2.2.1⟩)) hg hat); have n2_ := Aside0.mk (Kd.R_over' (by (with_reducible repeat (first | apply Kd.R_alloc | apply Kd.R_drewN | apply Kd.R_drew)); exact HO_7.out) (Kd.R_typed (by (with_reducible repeat (first | apply Kd.R_alloc | apply Kd.R_drewN | apply Kd.R_drew)); exact HO_8.out)) (by decide) hg); have n3_ := Aside0.mk (Kd.R_over' (by (with_reducible repeat (first | apply Kd.R_alloc | apply Kd.R_drewN | apply Kd.R_drew)); exact HO_17.out) (Kd.R_typed (by (with_reducible repeat (first | apply Kd.R_alloc | apply Kd.R_drewN | apply Kd.R_drew)); exact HO_8.out)) (by decide) hg); have n4_ := Aside0.mk (hb); have n5_ := Aside0.mk (ho); clear HO_1; clear HO_2; clear HO_7; clear HO_17; clear HB; clear HO_8; have HO_1 := n0_; have HO_2 := n1_; have HO_7 := n2_; have HO_17 := n3_; have HB := n4_; have HO300 := n5_; clear n0_ n1_ n2_ n3_ n4_ n5_; clear ho hb hg hat))
          go_roundg k1
          case measure => have := HK1.out; omega
          case rel => exact ⟨(y298), (wrap64 (x19_1 + 1)), (by first | rfl | (simp; done) | (simp [*]; done)), H', ⟨by have := HK1.out; omega⟩, ⟨by (with_reducible repeat (first | apply Kd.V_alloc | apply Kd.V_drewN | apply Kd.V_drew)); exact Kd.V_mono HO_1.out (fun _ hk => ⟨hk.1.1, ⟨hk.1.2.1, ⟨hk.2, hk.1.2.2⟩⟩⟩)⟩, ⟨by (with_reducible repeat (first | apply Kd.V_alloc | apply Kd.V_drewN | apply Kd.V_drew)); exact Kd.V_mono HO_2.out (fun _ hk => ⟨hk.1.1, ⟨hk.1.2.1, ⟨hk.2, hk.1.2.2⟩⟩⟩)⟩, ⟨by (with_reducible repeat (first | apply Kd.R_alloc | apply Kd.R_drewN | apply Kd.R_drew)); exact HO_7.out⟩, ⟨by (with_reducible repeat (first | apply Kd.R_alloc | apply Kd.R_drewN | apply Kd.R_drew)); exact HO300.out⟩, ⟨by (with_reducible repeat (first | apply Kd.R_alloc | apply Kd.R_drewN | apply Kd.R_drew)); exact HO_17.out⟩, ⟨by repeat (first | (with_reducible first | exact HB.out | apply below_alloc | apply pw_below_drewN | apply below_drew1) | exact HB.out)⟩⟩
         ·
          rw [if_neg c71] at H
          exact absurd H (by simp)
        ·
         rw [if_neg c70] at H
         have c70b0 : (a0 == 3) = false := beq_eq_false_iff_ne.mpr c70
         have c70b1 : (a0 != 3) = true := bne_iff_ne.mpr c70
         by_cases c75 : x8_1.length < 140737488355328
         ·
          rw [if_pos c75] at H
          have LMc75 := Aside0.mk c75
          clear c75
          obtain ⟨y301, hy301⟩ : ∃ y_ : List Bool, y_ = (x8_1 ++ [false]) := ⟨_, rfl⟩
          replace H : (q18z.l0 k1 a0 l1 l2 t259 y301 t259 (t259.length : Int) (wrap64 (x19_1 + 1))) = some r := by first | (rw [hy301]; with_reducible exact H) | (have H2_ := (Option.bind_some _ _).symm.trans H; rw [hy301]; with_reducible exact H2_) | (have H2_ := (Option.bind_some _ _).symm.trans H; with_reducible exact H2_) | with_reducible exact H | (rw [hy301]; exact H) | exact H
          have Ny301 := Aside0.mk hy301
          clear hy301
          have H' := Aside0.mk H
          clear H
          have p262 : 0 ≤ (x19_1 : Int) := of_decide_eq_true (by first | (with_reducible assumption) | assumption)
          have q262 : x19_1 < (t259.length : Int) := of_decide_eq_true (by first | (with_reducible assumption) | assumption)
          obtain ⟨ad262, e262, hx262_0⟩ := Kd.at_int (Kd.R_reads' HO_17.out).2.2 x19_1 p262 q262
          cases e262
          replace p262 := eq_true p262
          replace q262 := eq_true q262
          go_wp2_with (first | ((with_reducible refine gate_callee (f := 17) rfl ?_); refine goesL_ (some 25) rfl rfl Try.func17 (by kernel_rfl) rfl #[.slice A1 l1.length c1, .int .u32 (rd t259 x19_1)] rfl (by (try simp only [List.map_toArray, List.map_cons, List.map_nil]); first | done | rfl | (simp only [List.length_drop, List.length_take]; rfl)) ?_; (with_reducible refine (q12z.calls k1 _ _ l1 (rd t259 x19_1) t263 _ ?side1 ?side2 A13.out).mono ?_); (case side1 => repeat (first | exact (Kd.V_reads' HO_1.out).2.2 | (with_reducible refine Kd.C_alloc ?_ _) | (with_reducible refine Kd.C_drewN ?_ _) | (with_reducible refine Kd.C_drew ?_))); (case side2 => exact (Kd.V_reads' HO_1.out).2.1); rintro e w76 ⟨rfl, hb⟩; refine ⟨_, rfl, ?_⟩; have n0_ := Aside0.mk (Kd.V_below (by (with_reducible repeat (first | apply Kd.V_alloc | apply Kd.V_drewN | apply Kd.V_drew)); exact HO_1.out) hb); have n1_ := Aside0.mk (Kd.V_below (by (with_reducible repeat (first | apply Kd.V_alloc | apply Kd.V_drewN | apply Kd.V_drew)); exact HO_2.out) hb); have n2_ := Aside0.mk (Kd.R_below (by (with_reducible repeat (first | apply Kd.R_alloc | apply Kd.R_drewN | apply Kd.R_drew)); exact HO_7.out) hb); have n3_ := Aside0.mk (Kd.R_below (by (with_reducible repeat (first | apply Kd.R_alloc | apply Kd.R_drewN | apply Kd.R_drew)); exact HO_8.out) hb); have n4_ := Aside0.mk (Kd.R_below (by (with_reducible repeat (first | apply Kd.R_alloc | apply Kd.R_drewN | apply Kd.R_drew)); exact HO_17.out) hb); have n5_ := Aside0.mk (below_step (by repeat (first | (with_reducible first | exact HB.out | apply below_alloc | apply pw_below_drewN | apply below_drew1) | exact HB.out)) hb); clear HO_1; clear HO_2; clear HO_7; clear HO_8; clear HO_17; clear HB; have HO_1 := n0_; have HO_2 := n1_; have HO_7 := n2_; have HO_8 := n3_; have HO_17 := n4_; have HB := n5_; clear n0_ n1_ n2_ n3_ n4_ n5_; (try clear hb); (try clear hb2); (try clear hk); (try clear hi)) | ((with_reducible refine gate_callee (f := 17) rfl ?_); refine goesL_ (some 28) rfl rfl Try.func17 (by kernel_rfl) rfl #[.slice A2 l2.length c2, .int .u32 (rd t259 x19_1)] rfl (by (try simp only [List.map_toArray, List.map_cons, List.map_nil]); first | done | rfl | (simp only [List.length_drop, List.length_take]; rfl)) ?_; (with_reducible refine (q12z.calls k1 _ _ l2 (rd t259 x19_1) t264 _ ?side1 ?side2 A14.out).mono ?_); (case side1 => repeat (first | exact (Kd.V_reads' HO_2.out).2.2 | (with_reducible refine Kd.C_alloc ?_ _) | (with_reducible refine Kd.C_drewN ?_ _) | (with_reducible refine Kd.C_drew ?_))); (case side2 => exact (Kd.V_reads' HO_2.out).2.1); rintro e w77 ⟨rfl, hb⟩; refine ⟨_, rfl, ?_⟩; have n0_ := Aside0.mk (Kd.V_below (by (with_reducible repeat (first | apply Kd.V_alloc | apply Kd.V_drewN | apply Kd.V_drew)); exact HO_1.out) hb); have n1_ := Aside0.mk (Kd.V_below (by (with_reducible repeat (first | apply Kd.V_alloc | apply Kd.V_drewN | apply Kd.V_drew)); exact HO_2.out) hb); have n2_ := Aside0.mk (Kd.R_below (by (with_reducible repeat (first | apply Kd.R_alloc | apply Kd.R_drewN | apply Kd.R_drew)); exact HO_7.out) hb); have n3_ := Aside0.mk (Kd.R_below (by (with_reducible repeat (first | apply Kd.R_alloc | apply Kd.R_drewN | apply Kd.R_drew)); exact HO_8.out) hb); have n4_ := Aside0.mk (Kd.R_below (by (with_reducible repeat (first | apply Kd.R_alloc | apply Kd.R_drewN | apply Kd.R_drew)); exact HO_17.out) hb); have n5_ := Aside0.mk (below_step (by repeat (first | (with_reducible first | exact HB.out | apply below_alloc | apply pw_below_drewN | apply below_drew1) | exact HB.out)) hb); clear HO_1; clear HO_2; clear HO_7; clear HO_8; clear HO_17; clear HB; have HO_1 := n0_; have HO_2 := n1_; have HO_7 := n2_; have HO_8 := n3_; have HO_17 := n4_; have HB := n5_; clear n0_ n1_ n2_ n3_ n4_ n5_; (try clear hb); (try clear hb2); (try clear hk); (try clear hi)) | ((with_reducible refine gate_builtin (b := .append) (xs := #[.tmp 29, .tmp 56]) rfl ?_); at_builtin; refine Kd.R_append Kd.bool (w0 := w) w.heap.size rfl (.tmp 29) (.tmp 56) 48 4 (.bool false) 1 rfl Try.underlying48 info4 rfl (by decide) (by omega) u8 x8_1 false [.bool false] (fun k_ => (w.heap.size ≤ k_)) (fun _ => False) rfl rfl ?aP (fun _ hk => hk.elim) ?aF ?aO ?aB ?aS ?aL ?_; (case aP => exact rfl); (case aB => exact (by repeat (first | (with_reducible first | exact HB.out | apply below_alloc | apply pw_below_drewN | apply below_drew1) | exact HB.out))); (case aF => exact (fun k_ hk => (Nat.le_trans (below_size (by repeat (first | (with_reducible first | exact HB.out | apply below_alloc | apply pw_below_drewN | apply below_drew1) | exact HB.out))) hk))); (case aO => exact (by (with_reducible repeat (first | apply Kd.R_alloc | apply Kd.R_drewN | apply Kd.R_drew)); exact HO_8.out)); (case aS => exact (below_size (by repeat (first | (with_reducible first | exact HB.out | apply below_alloc | apply pw_below_drewN | apply below_drew1) | exact HB.out)))); (case aL => have := LMc75.out; omega); intro v302 w78 ho hb hg hat; rw [← Ny301.out] at ho; have n0_ := Aside0.mk (Kd.V_afterv (ok := (fun k_ => ((P1_ k_ ∨ P2_ k_) ∨ w.heap.size ≤ k_) ∧ some k_ ≠ (.slice (some ad262) t259.length co9 : Value).ownBlock ∧ some k_ ≠ (.slice (some ad262) t259.length co9 : Value).ownBlock)) (by (with_reducible repeat (first | apply Kd.V_alloc | apply Kd.V_drewN | apply Kd.V_drew)); exact Kd.V_mono HO_1.out (fun _ hk => ⟨⟨hk.1, ⟨hk.2.1, hk.2.2.2⟩⟩, hk.2.2.1⟩)) hg hat); have n1_ := Aside0.mk (Kd.V_afterv (ok := (fun k_ => ((P1_ k_ ∨ P2_ k_) ∨ w.heap.size ≤ k_) ∧ some k_ ≠ (.slice (some ad262) t259.length co9 : Value).ownBlock ∧ some k_ ≠ (.slice (some ad262) t259.length co9 : Value).ownBlock)) (by (with_reducible repeat (first | apply Kd.V_alloc | apply Kd.V_drewN | apply Kd.V_drew)); exact Kd.V_mono HO_2.out (fun _ hk => ⟨⟨hk.1, ⟨hk.2.1, hk.2.2.2⟩⟩, hk.2.2.1⟩)) hg hat); have n2_ := Aside0.mk (Kd.R_over' (by (with_reducible repeat (first | apply Kd.R_alloc | apply Kd.R_drewN | apply Kd.R_drew)); exact HO_7.out) (Kd.R_typed (by (with_reducible repeat (first | apply Kd.R_alloc | apply Kd.R_drewN | apply Kd.R_drew)); exact HO_8.out)) (by decide) hg); have n3_ := Aside0.mk (Kd.R_over' (by (with_reducible repeat (first | apply Kd.R_alloc | apply Kd.R_drewN | apply Kd.R_drew)); exact HO_17.out) (Kd.R_typed (by (with_reducible repeat (first | apply Kd.R_alloc | apply Kd.R_drewN | apply Kd.R_drew)); exact HO_8.out)) (by decide) hg); have n4_ := Aside0.mk (hb); have n5_ := Aside0.mk (ho); clear HO_1; clear HO_2; clear HO_7; clear HO_17; clear HB; clear HO_8; have HO_1 := n0_; have HO_2 := n1_; have HO_7 := n2_; have HO_17 := n3_; have HB := n4_; have HO303 := n5_; clear n0_ n1_ n2_ n3_ n4_ n5_; clear ho hb hg hat))
          go_roundg k1
          case measure => have := HK1.out; omega
          case rel => exact ⟨(y301), (wrap64 (x19_1 + 1)), (by first | rfl | (simp; done) | (simp [*]; done)), H', ⟨by have := HK1.out; omega⟩, ⟨by (with_reducible repeat (first | apply Kd.V_alloc | apply Kd.V_drewN | apply Kd.V_drew)); exact Kd.V_mono HO_1.out (fun _ hk => ⟨hk.1.1, ⟨hk.1.2.1, ⟨hk.2, hk.1.2.2⟩⟩⟩)⟩, ⟨by (with_reducible repeat (first | apply Kd.V_alloc | apply Kd.V_drewN | apply Kd.V_drew)); exact Kd.V_mono HO_2.out (fun _ hk => ⟨hk.1.1, ⟨hk.1.2.1, ⟨hk.2, hk.1.2.2⟩⟩⟩)⟩, ⟨by (with_reducible repeat (first | apply Kd.R_alloc | apply Kd.R_drewN | apply Kd.R_drew)); exact HO_7.out⟩, ⟨by (with_reducible repeat (first | apply Kd.R_alloc | apply Kd.R_drewN | apply Kd.R_drew)); exact HO303.out⟩, ⟨by (with_reducible repeat (first | apply Kd.R_alloc | apply Kd.R_drewN | apply Kd.R_drew)); exact HO_17.out⟩, ⟨by repeat (first | (with_reducible first | exact HB.out | apply below_alloc | apply pw_below_drewN | apply below_drew1) | exact HB.out)⟩⟩
         ·
          rw [if_neg c75] at H
          exact absurd H (by simp)
     ·
      rw [if_neg c12] at H
      exact absurd H (by simp)
    ·
     rw [if_neg c11] at H
     exact absurd H (by simp)
   ·
    rw [if_neg c10] at H
    have c10b0 : decide (x19_1 < (t259.length : Int)) = false := decide_eq_false c10
    clear c10
    replace H := Option.bind_eq_some_iff.mp H
    obtain ⟨t304, A790, H⟩ := H
    replace H : (some t304) = some r := H
    have A79 := Aside0.mk A790
    clear A790
    obtain rfl := Option.some.inj H
    obtain ⟨Ao80, co80, eo80⟩ := Kd.R_slice HO_8.out
    subst eo80
    go_wp2_with (first | ((with_reducible refine gate_callee (f := 32) rfl ?_); refine goesL_ (some 61) rfl rfl Try.func32 (by kernel_rfl) rfl #[.slice Ao9 t259.length co9, .slice Ao80 x8_1.length co80] rfl (by (try simp only [List.map_toArray, List.map_cons, List.map_nil]); first | done | rfl | (simp only [List.length_drop, List.length_take]; rfl)) ?_; (with_reducible refine (q17z.calls k1 _ _ t259 _ _ x8_1 t304 _ ?side1 ?side2 ?side3 ?side4 A79.out).mono ?_); (case side1 => repeat (first | exact (Kd.R_reads' HO_7.out).2.2 | (with_reducible refine Kd.C_alloc ?_ _) | (with_reducible refine Kd.C_drewN ?_ _) | (with_reducible refine Kd.C_drew ?_))); (case side2 => exact (Kd.R_reads' HO_7.out).2.1); (case side3 => repeat (first | exact (Kd.R_reads' HO_8.out).2.2 | (with_reducible refine Kd.C_alloc ?_ _) | (with_reducible refine Kd.C_drewN ?_ _) | (with_reducible refine Kd.C_drew ?_))); (case side4 => exact (Kd.R_reads' HO_8.out).2.1); rintro e w81 ⟨v305, rfl, ho0, hb⟩; refine ⟨_, rfl, ?_⟩; have n0_ := Aside0.mk (Kd.V_elder' (by (with_reducible repeat (first | apply Kd.V_alloc | apply Kd.V_drewN | apply Kd.V_drew)); exact HO_1.out) (Kd.R_base ho0) hb); have n1_ := Aside0.mk (Kd.V_elder' (by (with_reducible repeat (first | apply Kd.V_alloc | apply Kd.V_drewN | apply Kd.V_drew)); exact HO_2.out) (Kd.R_base ho0) hb); have n2_ := Aside0.mk (Kd.R_below (by (with_reducible repeat (first | apply Kd.R_alloc | apply Kd.R_drewN | apply Kd.R_drew)); exact HO_7.out) hb); have n3_ := Aside0.mk (Kd.R_below (by (with_reducible repeat (first | apply Kd.R_alloc | apply Kd.R_drewN | apply Kd.R_drew)); exact HO_8.out) hb); have n4_ := Aside0.mk (Kd.R_below (by (with_reducible repeat (first | apply Kd.R_alloc | apply Kd.R_drewN | apply Kd.R_drew)); exact HO_17.out) hb); have n5_ := Aside0.mk (Kd.R_lower (Kd.R_newM (M := fun k_ => (w.heap.size ≤ k_)) ho0 (below_size (by repeat (first | (with_reducible first | exact HB.out | apply below_alloc | apply pw_below_drewN | apply below_drew1) | exact HB.out))) (fun k_ h_ => h_)) (below_size (by repeat (first | (with_reducible first | exact HB.out | apply below_alloc | apply pw_below_drewN | apply below_drew1) | exact HB.out)))); have n6_ := Aside0.mk (below_step (by repeat (first | (with_reducible first | exact HB.out | apply below_alloc | apply pw_below_drewN | apply below_drew1) | exact HB.out)) hb); clear HO_1; clear HO_2; clear HO_7; clear HO_8; clear HO_17; clear HB; have HO_1 := n0_; have HO_2 := n1_; have HO_7 := n2_; have HO_8 := n3_; have HO_17 := n4_; have HO306 := n5_; have HB := n6_; clear n0_ n1_ n2_ n3_ n4_ n5_ n6_; (try clear hb); (try clear hb2); (try clear hk); (try clear hi); (try clear ho0)))
    go_ret
    exact ⟨_, by first | rfl | (simp [errW_none, errW_some] <;> rfl) | (simp [*, errW_none, errW_some] <;> rfl), by (with_reducible repeat (first | apply Kd.R_alloc | apply Kd.R_drewN | apply Kd.R_drew)); exact Kd.R_mono HO306.out (fun _ hk => hk.1), by repeat (first | (with_reducible first | exact HB.out | apply below_alloc | apply pw_below_drewN | apply below_drew1) | exact HB.out)⟩

end Go.Proofs.Ytconaifcjnpabaa.P

namespace Go.Proofs.Ytconaifcjnpabaa.P
open Go.RowKit Go.Proofs.YtconaifcjnpabaaW.PrintWords Go.Proofs.YtconaifcjnpabaaW.PrintLast Go.Proofs.YtconaifcjnpabaaW.PrintMore
attribute [local go_sem] max2_int min2_int max_two min_two max_three min_three max_four min_four
set_option linter.unusedVariables false
set_option linter.unusedSimpArgs false

/-! ### dragomanref01_Norm: function 15 -/
def q19z.f (k : Nat) (l0 : List (S33)) : Option ((List (S33))) := (q18z.f k 1 l0 ([] : List (S33))).bind fun t307 => (some t307)
theorem q19z.mono : ∀ a0 k, LeO (q19z.f k a0) (q19z.f (k + 1) a0) := by
 intro a0 k
 unfold q19z.f
 repeat' first
   | (with_reducible exact q18z.mono _ _ _ _)
   | (with_reducible exact LeO.refl _)
   | (with_reducible exact LeO.none _)
   | (with_reducible refine LeO.ite ?_ ?_)
   | (with_reducible refine LeO.bind ?_ (fun _ => ?_))
   | exact q18z.mono _ _ _ _
   | exact LeO.none _
   | refine LeO.ite ?_ ?_
   | refine LeO.bind ?_ (fun _ => ?_)
set_option maxHeartbeats 8000000 in
set_option maxRecDepth 100000 in
theorem q19z.calls (k : Nat) (A0 : Option Addr) (c0 : Nat) (l0 : List (S33)) (r : List (S33)) (w : World) (hr0 : Kd.C k33 w A0 l0.length l0) (hc0 : l0.length ≤ c0) (h : q19z.f k l0 = some r) :
  Calls Try.prog 15 #[.slice A0 l0.length c0] w fun e w' => ∃ v0_ : Value, e = .returned (v0_) ∧ Kd.R k33 33 w' w.heap.size (fun _ => True) v0_ r ∧ Below w.heap.size w w' := by
 have HR0 := Aside0.mk hr0
 have HC0 := Aside0.mk hc0
 clear hr0 hc0
 have HB := Aside0.mk (Below.refl w.heap.size w)
 have H : ((q18z.f k 1 l0 ([] : List (S33))).bind fun t307 => (some t307)) = some r := h
 clear h
 replace H := Option.bind_eq_some_iff.mp H
 obtain ⟨t307, A20, H⟩ := H
 replace H : (some t307) = some r := H
 have A2 := Aside0.mk A20
 clear A20
 obtain rfl := Option.some.inj H
 go_enter Try.func15, Try.ntmps15
 go_wp2_with (first | ((with_reducible refine gate_callee (f := 20) rfl ?_); refine goesL_ (some 4) rfl rfl Try.func20 (by kernel_rfl) rfl #[.int .i64 1, .slice A0 l0.length c0, .slice none 0 0] rfl (by (try simp only [List.map_toArray, List.map_cons, List.map_nil]); first | done | rfl | (simp only [List.length_drop, List.length_take]; rfl)) ?_; (refine (q18z.calls k 1 (fun k_ => k_ < w.heap.size) _ _ l0 (fun k_ => False) _ _ ([] : List (S33)) t307 _ ?side1 ?side2 A2.out).mono ?_); (case side1 => exact Kd.V_mk HC0.out (Kd.F_below (Kd.C_F k33_heap HR0.out) (by repeat (first | (with_reducible first | exact HB.out | apply below_alloc | apply pw_below_drewN | apply below_drew1) | exact HB.out)))); (case side2 => exact Kd.V_nil _ _ _ _ _); rintro e w3 ⟨v308, rfl, ho0, hb⟩; refine ⟨_, rfl, ?_⟩; have n0_ := Aside0.mk (Kd.R_lower (Kd.R_mono (ok' := fun k_ => True) ho0 (fun _ hk_ => trivial)) (below_size (by repeat (first | (with_reducible first | exact HB.out | apply below_alloc | apply pw_below_drewN | apply below_drew1) | exact HB.out)))); have n1_ := Aside0.mk (below_step (by repeat (first | (with_reducible first | exact HB.out | apply below_alloc | apply pw_below_drewN | apply below_drew1) | exact HB.out)) hb); clear HB; have HO309 := n0_; have HB := n1_; clear n0_ n1_; (try clear hb); (try clear hb2); (try clear hk); (try clear hi); (try clear ho0)))
 go_ret
 exact ⟨_, by first | rfl | (simp [errW_none, errW_some] <;> rfl) | (simp [*, errW_none, errW_some] <;> rfl), by (with_reducible repeat (first | apply Kd.R_alloc | apply Kd.R_drewN | apply Kd.R_drew)); exact HO309.out, by repeat (first | (with_reducible first | exact HB.out | apply below_alloc | apply pw_below_drewN | apply below_drew1) | exact HB.out)⟩

end Go.Proofs.Ytconaifcjnpabaa.P

namespace Go.Proofs.Ytconaifcjnpabaa.P
open Go.RowKit Go.Proofs.YtconaifcjnpabaaW.PrintWords Go.Proofs.YtconaifcjnpabaaW.PrintMore
set_option linter.unusedVariables false
set_option linter.unusedSimpArgs false
theorem wr2 (i : Nat) (h : i < 1000000000) (h0 : 0 < i) : wrap64 ((i : Int) - 1) = ((i - 1 : Nat) : Int) := by rw [wr _ (by omega) (by omega)]; omega
theorem with_l1 (n : Int) (p : List Int) : ∀ (q s : List Int) (z : Int), p.length + q.length + s.length ≤ 1000000 →
    Ev (fun k => q14z.l1 k (p ++ q ++ [z] ++ s) n (p.length : Int) ((p.length + q.length : Nat) : Int)) (p ++ n :: (q ++ s)) := by
  intro q
  induction h : q.length generalizing q with
  | zero =>
    intro s z hl
    have hq : q = [] := List.length_eq_zero_iff.1 h
    subst hq
    refine Ev.step (f := fun _ => some (p ++ n :: ([] ++ s))) (fun k => ?_) (Ev.now _)
    simp only [q14z.l1]
    rw [if_neg (by omega), if_pos (by omega), if_pos (by simp; omega), Int.toNat_natCast]
    simp
  | succ m ih =>
    intro s z hl
    rcases List.eq_nil_or_concat q with rfl | ⟨q', y, rfl⟩
    · simp at h
    · rw [List.concat_eq_append] at *
      have hq' : q'.length = m := by simpa using h
      have e1 := ih q' hq' (y :: s) y (by simp only [List.length_cons]; omega)
      refine Ev.step (fun k => ?_) (r := p ++ n :: (q' ++ [y] ++ s)) (by
        have : p ++ n :: (q' ++ y :: s) = p ++ n :: (q' ++ [y] ++ s) := by simp
        rw [← this]
        exact e1)
      simp only [q14z.l1]
      have hw : wrap64 (((p.length + (m + 1) : Nat) : Int) - 1) = ((p.length + m : Nat) : Int) := by rw [wr _ (by omega) (by omega)]; omega
      have hr : rd (p ++ (q' ++ [y]) ++ [z] ++ s) ((p.length + m : Nat) : Int) = y := by
        rw [rdI _ _ (by simp; omega)]
        simp [List.getElem_append, hq']
      rw [if_pos (by omega), hw, if_pos (by omega), if_pos (by simp; omega), if_pos (by omega), if_pos (by simp; omega), hr, Int.toNat_natCast]
      congr 1
      have : p ++ (q' ++ [y]) ++ [z] ++ s = (p ++ q' ++ [y]) ++ (z :: s) := by simp
      rw [this, List.set_append_right _ _ (by simp; omega)]
      have : p.length + (m + 1) - (p ++ q' ++ [y]).length = 0 := by simp; omega
      rw [this]
      simp
theorem with_l0 (l : List Int) (n : Int) (hl : l.length ≤ 900000) (r : List Int) : ∀ (q p : List Int), l = p ++ q → (∀ a ∈ p, a < n) →
    Ev (fun k => q14z.j1 k l n (((p ++ q.takeWhile (fun a => decide (a < n))).length : Nat) : Int)) r → Ev (fun k => q14z.l0 k l n (p.length : Int)) r
  | [], p, hp, _, h => by
    rw [List.append_nil] at hp
    subst hp
    refine Ev.step (fun k => ?_) h
    simp only [q14z.l0]
    rw [if_neg (by omega), List.takeWhile_nil, List.append_nil]
  | a :: q, p, hp, hlt, h => by
    have hpl : p.length < l.length := by rw [hp]; simp
    have hr : rd l (p.length : Int) = a := by
      rw [rdI l _ hpl]
      simp [hp]
    by_cases ha : a < n
    · rw [List.takeWhile_cons_of_pos (by simpa using ha)] at h
      refine Ev.step (fun k => ?_) (with_l0 l n hl r q (p ++ [a]) (by rw [hp]; simp) (fun x hx => by
        rcases List.mem_append.1 hx with hx | hx
        · exact hlt x hx
        · rw [List.mem_singleton.1 hx]; exact ha) (by rw [List.append_assoc, List.singleton_append]; exact h))
      simp only [q14z.l0]
      rw [if_pos (by omega), if_pos (by omega), hr, if_pos ha, wr1 _ (by omega), List.length_append, List.length_singleton]
    · rw [List.takeWhile_cons_of_neg (by simpa using ha), List.append_nil] at h
      refine Ev.step (fun k => ?_) h
      simp only [q14z.l0]
      rw [if_pos (by omega), if_pos (by omega), hr, if_neg ha]
theorem with_ev (l : List Int) (n : Int) (hl : l.length ≤ 900000) : Ev (fun k => q14z.f k l n) (ins n l) := by
  refine Ev.congr (fun k => rfl) (with_l0 l n hl (ins n l) l [] rfl (fun a h => (List.not_mem_nil h).elim) ?_)
  rw [List.nil_append]
  have hs := ins_split n l
  unfold ins
  cases hd : l.dropWhile (fun a => decide (a < n)) with
  | nil =>
    rw [hd, List.append_nil] at hs
    simp only
    rw [← hs]
    refine Ev.step (fun k => ?_) (Ev.step (f := fun k => q14z.l1 k (l ++ [0]) n (l.length : Int) (l.length : Int)) (g := fun k => q14z.j2 k l n (l.length : Int) false) (fun k => ?_) ?_)
    · simp only [q14z.j1]
      rw [if_neg (by omega)]
    · simp only [q14z.j2]
      rw [if_neg (by simp), if_pos (by omega), Option.bind_some, wr _ (by simp only [List.length_append, List.length_singleton]; omega) (by simp only [List.length_append, List.length_singleton]; omega)]
      congr 1
      simp
    · have := with_l1 n l [] [] 0 (by simp; omega)
      simpa using this
  | cons a r =>
    rw [hd] at hs
    have hal : (l.takeWhile (fun a => decide (a < n))).length < l.length := by
      have := congrArg List.length hs
      simp only [List.length_append, List.length_cons] at this
      omega
    generalize hp : l.takeWhile (fun a => decide (a < n)) = p at hs hal ⊢
    have hr : rd l (p.length : Int) = a := by
      rw [rdI l _ hal]
      simp [hs]
    simp only
    by_cases ha : a = n
    · rw [if_pos ha]
      refine Ev.step (fun k => ?_) (Ev.step (f := fun _ => some l) (g := fun k => q14z.j2 k l n (p.length : Int) true) (fun k => ?_) (Ev.now _))
      · simp only [q14z.j1]
        rw [if_pos (by omega), if_pos (by omega), hr, ha]
        simp
      · simp only [q14z.j2]
        rw [if_pos trivial]
    · rw [if_neg ha]
      refine Ev.step (fun k => ?_) (Ev.step (f := fun k => q14z.l1 k (l ++ [0]) n (p.length : Int) (l.length : Int)) (g := fun k => q14z.j2 k l n (p.length : Int) false) (fun k => ?_) ?_)
      · simp only [q14z.j1]
        rw [if_pos (by omega), if_pos (by omega), hr, show (a == n) = false from by simpa using ha]
      · simp only [q14z.j2]
        rw [if_neg (by simp), if_pos (by omega), Option.bind_some, wr _ (by simp only [List.length_append, List.length_singleton]; omega) (by simp only [List.length_append, List.length_singleton]; omega)]
        congr 1
        simp
      · have h1 := with_l1 n p (a :: r) [] 0 (by have := congrArg List.length hs; simp only [List.length_append, List.length_cons, List.length_nil] at this ⊢; omega)
        have e1 : p ++ a :: r ++ [0] ++ [] = l ++ [0] := by rw [List.append_nil, ← hs]
        have e2 : p.length + (a :: r).length = l.length := by rw [← List.length_append, ← hs]
        rw [e1, e2] at h1
        rw [List.append_nil] at h1
        exact h1
theorem begins_l1 (L : List (List S33)) (l : List S33) (x11 : Int) (hl : l.length ≤ 100000) (hr : Rng l) (r : List Int) : ∀ (d i : Nat) (b : List Int), i + d = l.length → b.length + 2 * d ≤ 800000 →
    Ev (fun k => q15z.l0 k (cutS b (l.drop i)) L (L.length : Int) (wrap64 (x11 + 1))) r → Ev (fun k => q15z.l1 k b L (L.length : Int) x11 l (l.length : Int) (i : Int)) r
  | 0, i, b, hi, _, h => by
    rw [List.drop_eq_nil_of_le (by omega)] at h
    refine Ev.step (fun k => ?_) h
    simp only [q15z.l1]
    rw [if_neg (by omega), cutS]
  | d + 1, i, b, hi, hb, h => by
    have hil : i < l.length := by omega
    rw [List.drop_eq_getElem_cons hil] at h
    have hrd : rd_T33 l (i : Int) = l[i] := rdS l i hil
    have hs := hr l[i] (List.getElem_mem hil)
    generalize l[i] = s at hrd hs h
    unfold cutS at h
    have l1 := length_ins s.f0 b
    by_cases h1 : s.f0 > s.f1
    · rw [if_pos h1] at h
      refine Ev.step (fun k => ?_) (begins_l1 L l x11 hl hr r d (i + 1) b (by omega) (by omega) h)
      simp only [q15z.l1]
      rw [if_pos (by omega), if_pos (by omega), if_pos (by omega), hrd, if_pos h1, wr1 i (by omega)]
    · rw [if_neg h1] at h
      by_cases h2 : s.f1 < 4294967295
      · rw [if_pos h2] at h
        have l2 := length_ins (s.f1 + 1) (ins s.f0 b)
        refine Ev.step (fun k => ?_) (Ev.bind (with_ev b s.f0 (by omega)) (f := fun k t => if s.f1 < 4294967295 then ((q14z.f k t ((s.f1 + 1) % 4294967296)).bind fun t213 => (q15z.l1 k t213 L (L.length : Int) x11 l (l.length : Int) (wrap64 ((i : Int) + 1)))) else (q15z.l1 k t L (L.length : Int) x11 l (l.length : Int) (wrap64 ((i : Int) + 1)))) ?_)
        · simp only [q15z.l1]
          rw [if_pos (by omega), if_pos (by omega), if_pos (by omega), hrd, if_neg h1]
        · have hm : (s.f1 + 1) % 4294967296 = s.f1 + 1 := by omega
          simp only [if_pos h2, hm]
          refine Ev.bind (with_ev (ins s.f0 b) (s.f1 + 1) (by omega)) (f := fun k t => q15z.l1 k t L (L.length : Int) x11 l (l.length : Int) (wrap64 ((i : Int) + 1))) ?_
          rw [wr1 i (by omega)]
          exact begins_l1 L l x11 hl hr r d (i + 1) _ (by omega) (by omega) h
      · rw [if_neg h2] at h
        refine Ev.step (fun k => ?_) (Ev.bind (with_ev b s.f0 (by omega)) (f := fun k t => if s.f1 < 4294967295 then ((q14z.f k t ((s.f1 + 1) % 4294967296)).bind fun t213 => (q15z.l1 k t213 L (L.length : Int) x11 l (l.length : Int) (wrap64 ((i : Int) + 1)))) else (q15z.l1 k t L (L.length : Int) x11 l (l.length : Int) (wrap64 ((i : Int) + 1)))) ?_)
        · simp only [q15z.l1]
          rw [if_pos (by omega), if_pos (by omega), if_pos (by omega), hrd, if_neg h1]
        · simp only [if_neg h2]
          rw [wr1 i (by omega)]
          exact begins_l1 L l x11 hl hr r d (i + 1) _ (by omega) (by omega) h
theorem rdL (L : List (List S33)) (i : Nat) (h : i < L.length) : rd_L2 L (i : Int) = L[i] := by
  unfold rd_L2
  rw [Int.toNat_natCast, List.getD_eq_getElem?_getD, List.getElem?_eq_getElem h]
  rfl
theorem begins_l0 (L : List (List S33)) (hL : L.length ≤ 1000) (hr : ∀ l ∈ L, Rng l ∧ l.length ≤ 100000) : ∀ (d i : Nat) (b : List Int) (m : Nat), i + d = L.length → b.length + m ≤ 800000 → 2 * ((L.drop i).map List.length).sum ≤ m → Rising b →
    Ev (fun k => q15z.l0 k b L (L.length : Int) (i : Int)) (cutL b (L.drop i))
  | 0, i, b, m, hi, _, _, _ => by
    rw [List.drop_eq_nil_of_le (by omega)]
    refine Ev.step (f := fun _ => some b) (fun k => ?_) (Ev.now b)
    simp only [q15z.l0]
    rw [if_neg (by omega)]
  | d + 1, i, b, m, hi, hb, hm, hrb => by
    have hil : i < L.length := by omega
    rw [List.drop_eq_getElem_cons hil] at hm ⊢
    have hrl := hr L[i] (List.getElem_mem hil)
    rw [List.map_cons, List.sum_cons] at hm
    rw [cutL]
    obtain ⟨c1, _, c3⟩ := cutS_spec L[i] b hrb
    refine Ev.step (fun k => ?_) (begins_l1 L L[i] (i : Int) hrl.2 hrl.1 _ L[i].length 0 b (by omega) (by omega) (by
      rw [List.drop_zero, wr1 i (by omega)]
      exact begins_l0 L hL hr d (i + 1) _ (m - 2 * L[i].length) (by omega) (by omega) (by omega) c1))
    simp only [q15z.l0]
    rw [if_pos (by omega), if_pos (by omega), if_pos (by omega), rdL L i hil]
    rfl
theorem end_f (b : List Int) (i : Nat) (hi : i < b.length) (hb : b.length ≤ 900000) (hr : ∀ z ∈ b, 0 ≤ z ∧ z ≤ 4294967295) (hp : Rising b) (h0 : ∀ z ∈ b.drop 1, 0 < z) (g : Int → Bool) :
    q16z.f b (i : Int) = some (endOf ((b.drop (i + 1)).map (fun n => (n, g n)))) := by
  unfold q16z.f
  by_cases h : i + 1 = b.length
  · rw [if_pos (by rw [wr _ (by omega) (by omega)]; omega), List.drop_eq_nil_of_le (by omega)]
    rfl
  · have hlt : i + 1 < b.length := by omega
    rw [if_neg (by rw [wr _ (by omega) (by omega)]; omega), wr1 i (by omega), if_pos (by omega), if_pos (by omega), rdI b (i + 1) hlt, List.drop_eq_getElem_cons hlt]
    have hz := hr b[i + 1] (List.getElem_mem hlt)
    have hz0 : 0 < b[i + 1] := h0 _ (by
      have : b[i + 1] = (b.drop 1)[i]'(by simp; omega) := by simp [Nat.add_comm]
      rw [this]
      exact List.getElem_mem _)
    rw [List.map_cons]
    show some ((b[i + 1] - 1) % 4294967296) = some (b[i + 1] - 1)
    congr 1
    omega
theorem rdB (l : List Bool) (i : Nat) (h : i < l.length) : rdOf false l (i : Int) = l[i] := by
  unfold rdOf
  rw [Int.toNat_natCast, List.getD_eq_getElem?_getD, List.getElem?_eq_getElem h]
  rfl
theorem from_l0 (b : List Int) (g : Int → Bool) (hb : b.length ≤ 900000) (hr : ∀ z ∈ b, 0 ≤ z ∧ z ≤ 4294967295) (hp : Rising b) (h0 : ∀ z ∈ b.drop 1, 0 < z) : ∀ (d i : Nat) (out : List S33) (prev : Bool), i + d = b.length → out.length ≤ i →
    (prev = true → out ≠ []) → (∀ h : 0 < i, ∃ z, b[i - 1]? = some z ∧ prev = g z) → (i = 0 → prev = false) →
    Ev (fun k => q17z.l0 k b (b.map g) out b (b.length : Int) (i : Int)) (fromL prev out ((b.drop i).map (fun n => (n, g n))))
  | 0, i, out, prev, hi, _, _, _, _ => by
    rw [List.drop_eq_nil_of_le (by omega)]
    refine Ev.step (f := fun _ => some out) (fun k => ?_) (Ev.now out)
    simp only [q17z.l0]
    rw [if_neg (by omega)]
  | d + 1, i, out, prev, hi, ho, hpo, hpv, hp0 => by
    have hil : i < b.length := by omega
    rw [List.drop_eq_getElem_cons hil, List.map_cons]
    have hrb : rdOf false (b.map g) (i : Int) = g b[i] := by rw [rdB _ i (by simpa using hil)]; simp
    have hrd : rd b (i : Int) = b[i] := rdI b i hil
    have hend := end_f b i hil hb hr hp h0 g
    have hml : ((b.map g).length : Int) = (b.length : Int) := by simp
    by_cases hg : g b[i] = true
    · have hj : Ev (fun k => q17z.j1 k b (b.map g) out (i : Int) b[i] b (b.length : Int) (i : Int) prev) (fromL prev out ((b[i], g b[i]) :: (b.drop (i + 1)).map (fun n => (n, g n)))) := by
        cases prev with
        | true =>
          rcases List.eq_nil_or_concat out with rfl | ⟨p, x, rfl⟩
          · exact absurd rfl (hpo rfl)
          · rw [List.concat_eq_append] at *
            have hpl : (p ++ [x]).length = p.length + 1 := by simp
            have hw : wrap64 (((p ++ [x]).length : Int) - 1) = (p.length : Int) := by rw [wr _ (by omega) (by omega)]; omega
            have hrx : rd_T33 (p ++ [x]) (p.length : Int) = x := by rw [rdS _ _ (by simp)]; simp
            have hf : fromL true (p ++ [x]) ((b[i], g b[i]) :: (b.drop (i + 1)).map (fun n => (n, g n))) = fromL true (p ++ [⟨x.f0, endOf ((b.drop (i + 1)).map (fun n => (n, g n)))⟩]) ((b.drop (i + 1)).map (fun n => (n, g n))) := by
              rw [fromL, hg, setEnd_snoc]
              rfl
            rw [hf]
            refine Ev.step (fun k => ?_) (from_l0 b g hb hr hp h0 d (i + 1) _ true (by omega) (by simp; simp at ho; omega) (fun _ => by simp) (fun h => ⟨b[i], by rw [Nat.add_sub_cancel]; exact List.getElem?_eq_getElem hil, hg.symm⟩) (fun h => by omega))
            simp only [q17z.j1]
            rw [if_pos trivial, hend, Option.bind_some, hw, if_pos (by omega), if_pos (by omega), hrx, Int.toNat_natCast, wr1 i (by omega)]
            congr 1
            simp
        | false =>
          have hf : fromL false out ((b[i], g b[i]) :: (b.drop (i + 1)).map (fun n => (n, g n))) = fromL true (out ++ [⟨b[i], endOf ((b.drop (i + 1)).map (fun n => (n, g n)))⟩]) ((b.drop (i + 1)).map (fun n => (n, g n))) := by
            rw [fromL, hg]
            rfl
          rw [hf]
          refine Ev.step (fun k => ?_) (from_l0 b g hb hr hp h0 d (i + 1) _ true (by omega) (by simp; omega) (fun _ => by simp) (fun h => ⟨b[i], by rw [Nat.add_sub_cancel]; exact List.getElem?_eq_getElem hil, hg.symm⟩) (fun h => by omega))
          simp only [q17z.j1]
          rw [if_neg (by simp), hend, Option.bind_some, if_pos (by omega), wr1 i (by omega)]
      by_cases hi0 : 0 < i
      · obtain ⟨z, hz1, hz2⟩ := hpv hi0
        have hq2 : g (b[i - 1]'(by omega)) = prev := by
          rw [List.getElem?_eq_getElem (show i - 1 < b.length by omega)] at hz1
          rw [hz2, Option.some.inj hz1]
        refine Ev.step (fun k => ?_) hj
        simp only [q17z.l0]
        rw [if_pos (by omega), if_pos (by omega), if_pos (by omega), if_pos (by omega), hrb, if_pos hg, if_pos (by omega), wr2 i (by omega) hi0, if_pos (by omega), if_pos (by omega), hrd, rdB _ (i - 1) (by rw [List.length_map]; omega), List.getElem_map, hq2]
      · have hi1 : i = 0 := by omega
        have hpf := hp0 hi1
        subst hpf
        refine Ev.step (fun k => ?_) hj
        simp only [q17z.l0]
        rw [if_pos (by omega), if_pos (by omega), if_pos (by omega), if_pos (by omega), hrb, if_pos hg, if_neg (by omega), hrd]
    · have hgf : g b[i] = false := by simpa using hg
      have hf : fromL prev out ((b[i], g b[i]) :: (b.drop (i + 1)).map (fun n => (n, g n))) = fromL false out ((b.drop (i + 1)).map (fun n => (n, g n))) := by
        rw [fromL, hgf]
        rfl
      rw [hf]
      refine Ev.step (fun k => ?_) (from_l0 b g hb hr hp h0 d (i + 1) out false (by omega) (by omega) (fun h => by cases h) (fun h => ⟨b[i], by rw [Nat.add_sub_cancel]; exact List.getElem?_eq_getElem hil, hgf.symm⟩) (fun h => rfl))
      simp only [q17z.l0]
      rw [if_pos (by omega), if_pos (by omega), if_pos (by omega), if_pos (by omega), hrb, if_neg hg, wr1 i (by omega)]
end Go.Proofs.Ytconaifcjnpabaa.P

namespace Go.Proofs.Ytconaifcjnpabaa.P
open Go.RowKit Go.Proofs.YtconaifcjnpabaaW.PrintWords Go.Proofs.YtconaifcjnpabaaW.PrintMore
set_option linter.unusedVariables false
set_option linter.unusedSimpArgs false
/-! ### Set -/
def opOf (op : Int) (p q : Bool) : Bool := if op = 1 then p || q else if op = 2 then p && q else !p
theorem set_l0 (op : Int) (hop : op = 1 ∨ op = 2 ∨ op = 3) (a c : List S33) (b : List Int) (ha : a.length ≤ 1000000) (hc : c.length ≤ 1000000) (hb : b.length ≤ 900000) (r : List S33) : ∀ (d i : Nat) (acc : List Bool), i + d = b.length → acc.length ≤ i →
    Ev (fun k => q17z.f k b (acc ++ (b.drop i).map (fun n => opOf op (InS a n) (InS c n)))) r → Ev (fun k => q18z.l0 k op a c b acc b (b.length : Int) (i : Int)) r
  | 0, i, acc, hi, _, h => by
    rw [List.drop_eq_nil_of_le (by omega), List.map_nil, List.append_nil] at h
    refine Ev.step (fun k => ?_) (Ev.bind h (f := fun _ t => some t) (Ev.now r))
    simp only [q18z.l0]
    rw [if_neg (by omega)]
  | d + 1, i, acc, hi, hacc, h => by
    have hil : i < b.length := by omega
    rw [List.drop_eq_getElem_cons hil, List.map_cons] at h
    have hrd : rd b (i : Int) = b[i] := rdI b i hil
    generalize b[i] = n at hrd h
    have ih := set_l0 op hop a c b ha hc hb r d (i + 1) (acc ++ [opOf op (InS a n) (InS c n)]) (by omega) (by simp; omega) (by rw [List.append_assoc, List.singleton_append]; exact h)
    refine Ev.step (fun k => ?_) (Ev.bind (refIn_ev a n ha) (f := fun k p => (q12z.f k c n).bind fun q => q18z.l0 k op a c b (acc ++ [opOf op p q]) b (b.length : Int) ((i + 1 : Nat) : Int)) (Ev.bind (refIn_ev c n hc) (f := fun k q => q18z.l0 k op a c b (acc ++ [opOf op (InS a n) q]) b (b.length : Int) ((i + 1 : Nat) : Int)) ih))
    simp only [q18z.l0]
    rw [if_pos (by omega), if_pos (by omega), if_pos (by omega), hrd, wr1 i (by omega)]
    have hal : acc.length < 140737488355328 := by omega
    congr 1
    funext p
    congr 1
    funext q
    rcases hop with rfl | rfl | rfl <;> cases p <;> cases q <;> simp [opOf, hal]
theorem cutL_length (a c : List S33) : (cutL [0] [a, c]).length ≤ 1 + 2 * a.length + 2 * c.length := by
  obtain ⟨h1, _, h3⟩ := cutS_spec a [0] (List.pairwise_singleton _ _)
  obtain ⟨_, _, h4⟩ := cutS_spec c (cutS [0] a) h1
  simp only [cutL]
  simp only [List.length_cons, List.length_nil] at h3
  omega
theorem set_ev (op : Int) (hop : op = 1 ∨ op = 2 ∨ op = 3) (a c : List S33) (ha : Rng a) (hc : Rng c) (hal : a.length ≤ 100000) (hcl : c.length ≤ 100000) :
    ∃ r, Ev (fun k => q18z.f k op a c) r ∧ NF r ∧ ∀ x, InS r x = (decide (0 ≤ x) && decide (x ≤ 4294967295) && opOf op (InS a x) (InS c x)) := by
  obtain ⟨h1, h2⟩ := setL_spec (opOf op) a c ha hc
  refine ⟨_, ?_, h1, h2⟩
  obtain ⟨hr, hm⟩ := cutL_spec [a, c] [0] (List.pairwise_singleton _ _)
  have hrng : ∀ x ∈ cutL [0] [a, c], 0 ≤ x ∧ x ≤ 4294967295 := fun x hx => by
    rcases (hm x).1 hx with h | ⟨l, hl, s, hs, q1, q2⟩
    · rw [List.mem_singleton.1 h]; omega
    · have : 0 ≤ s.f0 ∧ s.f0 ≤ 4294967295 ∧ 0 ≤ s.f1 ∧ s.f1 ≤ 4294967295 := by
        simp only [List.mem_cons, List.not_mem_nil, or_false] at hl
        rcases hl with rfl | rfl
        · exact ha s hs
        · exact hc s hs
      omega
  have hlen := cutL_length a c
  have h0m : (0 : Int) ∈ cutL [0] [a, c] := (hm 0).2 (.inl List.mem_cons_self)
  have hpos : ∀ z ∈ (cutL [0] [a, c]).drop 1, 0 < z := fun z hz => by
    cases hq : cutL [0] [a, c] with
    | nil => rw [hq] at hz; simp at hz
    | cons n b =>
      rw [hq] at hz hr h0m hrng
      unfold Rising at hr
      rw [List.pairwise_cons] at hr
      have h4 := hr.1 z (by simpa using hz)
      have h5 := hrng n List.mem_cons_self
      omega
  have hbeg := begins_l0 [a, c] (by simp) (fun l hl => by
    simp only [List.mem_cons, List.not_mem_nil, or_false] at hl
    rcases hl with rfl | rfl
    · exact ⟨ha, hal⟩
    · exact ⟨hc, hcl⟩) 2 0 [0] 400000 (by simp) (by simp) (by simp; omega) (List.pairwise_singleton _ _)
  rw [List.drop_zero] at hbeg
  refine Ev.bind (g := fun k => q15z.f k [a, c]) (f := fun k t => q18z.l0 k op a c t [] t (t.length : Int) 0) hbeg ?_
  refine set_l0 op hop a c _ (by omega) (by omega) (by omega) _ (cutL [0] [a, c]).length 0 [] (by omega) (Nat.zero_le _) ?_
  rw [List.nil_append, List.drop_zero]
  exact from_l0 _ (fun n => opOf op (InS a n) (InS c n)) (by omega) hrng hr hpos (cutL [0] [a, c]).length 0 [] false (by omega) (Nat.zero_le _) (fun h => by cases h) (fun h => by omega) (fun _ => rfl)

/-! ### Meet -/
def meetL : Nat → List S33 → List S33 → List S33
  | f + 1, x :: a, y :: b => (if mx x.f0 y.f0 ≤ mn x.f1 y.f1 then [⟨mx x.f0 y.f0, mn x.f1 y.f1⟩] else []) ++ (if mn x.f1 y.f1 = 4294967295 then [] else if x.f1 = mn x.f1 y.f1 then meetL f a (y :: b) else meetL f (x :: a) b)
  | _, _, _ => []
theorem meetL_low : ∀ (f : Nat) (a b : List S33) (c : Int), (∀ s ∈ a, c ≤ s.f0) ∨ (∀ s ∈ b, c ≤ s.f0) → ∀ z ∈ meetL f a b, c ≤ z.f0
  | 0, a, b, c, _, z, hz => by simp [meetL] at hz
  | f + 1, [], b, c, _, z, hz => by simp [meetL] at hz
  | f + 1, x :: a, [], c, _, z, hz => by simp [meetL] at hz
  | f + 1, x :: a, y :: b, c, h, z, hz => by
    rw [meetL] at hz
    rcases List.mem_append.1 hz with hz | hz
    · split at hz
      · rw [List.mem_singleton.1 hz]
        show c ≤ mx x.f0 y.f0
        unfold mx
        rcases h with h | h
        · have := h x List.mem_cons_self; split <;> omega
        · have := h y List.mem_cons_self; split <;> omega
      · simp at hz
    · split at hz
      · simp at hz
      · split at hz
        · exact meetL_low f a (y :: b) c (h.imp (fun h s hs => h s (List.mem_cons_of_mem _ hs)) id) z hz
        · exact meetL_low f (x :: a) b c (h.imp id (fun h s hs => h s (List.mem_cons_of_mem _ hs))) z hz
theorem InS_above {l : List S33} {c n : Int} (h : ∀ s ∈ l, c < s.f0) (hn : n ≤ c) : InS l n = false := by
  cases hq : InS l n with
  | false => rfl
  | true =>
    obtain ⟨s, hs, hs0, _⟩ := (InS_iff _ _).1 hq
    have := h s hs
    omega
theorem meetL_nf : ∀ (f : Nat) (a b : List S33), a.length + b.length ≤ f → NF a → NF b → NF (meetL f a b) ∧ ∀ n, InS (meetL f a b) n = (InS a n && InS b n)
  | f, [], b, _, _, _ => by
    have : meetL f [] b = [] := by cases f <;> rfl
    rw [this]
    exact ⟨NF_nil, fun n => by simp [InS]⟩
  | f, x :: a, [], _, _, _ => by
    have : meetL f (x :: a) [] = [] := by cases f <;> rfl
    rw [this]
    exact ⟨NF_nil, fun n => by simp [InS]⟩
  | 0, x :: a, y :: b, h, _, _ => by simp at h
  | f + 1, x :: a, y :: b, h, ha, hb => by
    obtain ⟨hx, hxa, ha'⟩ := NF_cons.1 ha
    obtain ⟨hy, hyb, hb'⟩ := NF_cons.1 hb
    unfold Ok at hx hy
    have hmx : mx x.f0 y.f0 = x.f0 ∧ y.f0 ≤ x.f0 ∨ mx x.f0 y.f0 = y.f0 ∧ x.f0 < y.f0 := by unfold mx; split <;> omega
    have hmn : mn x.f1 y.f1 = x.f1 ∧ x.f1 ≤ y.f1 ∨ mn x.f1 y.f1 = y.f1 ∧ y.f1 < x.f1 := by unfold mn; split <;> omega
    rw [meetL]
    generalize mx x.f0 y.f0 = lo at hmx ⊢
    generalize mn x.f1 y.f1 = hi at hmn ⊢
    have hbox : ∀ (n : Int), InS (if lo ≤ hi then [(⟨lo, hi⟩ : S33)] else []) n = (inSpan n x && inSpan n y) := fun n => by
      rw [Bool.eq_iff_iff, Bool.and_eq_true, inSpan_iff, inSpan_iff]
      split
      · simp only [InS, List.any_cons, List.any_nil, Bool.or_false, inSpan_iff]
        omega
      · simp only [InS, List.any_nil]
        constructor
        · intro h; cases h
        · intro h; omega
    have hcons : ∀ (r : List S33), NF r → (∀ z ∈ r, hi + 1 < z.f0) → NF ((if lo ≤ hi then [(⟨lo, hi⟩ : S33)] else []) ++ r) := fun r h1 h2 => by
      split
      · exact NF_cons.2 ⟨⟨by show 0 ≤ lo; omega, by assumption, by show hi ≤ 4294967295; omega⟩, h2, h1⟩
      · exact h1
    have hin : ∀ n, (InS (x :: a) n && InS (y :: b) n) = ((inSpan n x && inSpan n y) || ((InS a n && InS (y :: b) n) || (InS (x :: a) n && InS b n))) := fun n => by
      rw [InS_cons, InS_cons]
      cases inSpan n x <;> cases inSpan n y <;> cases InS a n <;> cases InS b n <;> rfl
    by_cases hM : hi = 4294967295
    · rw [if_pos hM]
      refine ⟨hcons [] NF_nil (fun z hz => (List.not_mem_nil hz).elim), fun n => ?_⟩
      have e1 : a = [] := by
        cases a with
        | nil => rfl
        | cons z a => have h1 := hxa z List.mem_cons_self; have h2 := (NF_cons.1 ha').1; unfold Ok at h2; omega
      have e2 : b = [] := by
        cases b with
        | nil => rfl
        | cons z b => have h1 := hyb z List.mem_cons_self; have h2 := (NF_cons.1 hb').1; unfold Ok at h2; omega
      subst e1 e2
      rw [List.append_nil, hbox, hin]
      simp [InS]
    · rw [if_neg hM]
      by_cases hc : x.f1 = hi
      · rw [if_pos hc]
        obtain ⟨k1, k2⟩ := meetL_nf f a (y :: b) (by simp at h ⊢; omega) ha' hb
        refine ⟨hcons _ k1 (fun z hz => by have := meetL_low f a (y :: b) (x.f1 + 2) (.inl (fun s hs => by have := hxa s hs; omega)) z hz; omega), fun n => ?_⟩
        rw [InS_append, hbox, k2, hin]
        congr 1
        by_cases hn : n ≤ x.f1
        · rw [InS_above (c := y.f1 + 1) (n := n) hyb (by omega), Bool.and_false, Bool.or_false]
        · have : inSpan n x = false := by rw [Bool.eq_false_iff]; intro h; rw [inSpan_iff] at h; omega
          rw [InS_cons x a, this, Bool.false_or, InS_cons y b]
          cases InS a n <;> cases inSpan n y <;> cases InS b n <;> rfl
      · rw [if_neg hc]
        obtain ⟨k1, k2⟩ := meetL_nf f (x :: a) b (by simp at h ⊢; omega) ha hb'
        refine ⟨hcons _ k1 (fun z hz => by have := meetL_low f (x :: a) b (y.f1 + 2) (.inr (fun s hs => by have := hyb s hs; omega)) z hz; omega), fun n => ?_⟩
        rw [InS_append, hbox, k2, hin]
        congr 1
        by_cases hn : n ≤ y.f1
        · rw [InS_above (c := x.f1 + 1) (n := n) hxa (by omega), Bool.false_and, Bool.false_or]
        · have : inSpan n y = false := by rw [Bool.eq_false_iff]; intro h; rw [inSpan_iff] at h; omega
          rw [InS_cons y b, this, Bool.false_or, InS_cons x a]
          cases InS a n <;> cases inSpan n x <;> cases InS b n <;> rfl
theorem meetL_length : ∀ (f : Nat) (a b : List S33), (meetL f a b).length ≤ a.length + b.length
  | 0, a, b => by simp [meetL]
  | f + 1, [], b => by simp [meetL]
  | f + 1, x :: a, [] => by simp [meetL]
  | f + 1, x :: a, y :: b => by
    have h1 := meetL_length f a (y :: b)
    have h2 := meetL_length f (x :: a) b
    rw [meetL, List.length_append]
    simp only [List.length_cons] at h1 h2 ⊢
    split <;> split <;> (try split) <;> simp <;> omega
theorem meet_l0 : ∀ (f : Nat) (a b out : List S33), a.length + b.length ≤ f → out.length + a.length + b.length ≤ 4000000 → Ev (fun k => q3z.l0 k a b out) (out ++ meetL f a b)
  | f, [], b, out, _, _ => by
    have : meetL f [] b = [] := by cases f <;> rfl
    rw [this, List.append_nil]
    refine Ev.step (fun k => ?_) (Ev.step (f := fun _ => some out) (g := fun k => q3z.j1 k [] b out false) (fun k => ?_) (Ev.now out))
    · simp only [q3z.l0]
      rw [if_neg (by simp)]
    · simp only [q3z.j1]
      rw [if_neg (by simp)]
  | f, x :: a, [], out, _, _ => by
    have : meetL f (x :: a) [] = [] := by cases f <;> rfl
    rw [this, List.append_nil]
    refine Ev.step (fun k => ?_) (Ev.step (f := fun _ => some out) (g := fun k => q3z.j1 k (x :: a) [] out false) (fun k => ?_) (Ev.now out))
    · simp only [q3z.l0]
      rw [if_pos (by simp only [List.length_cons]; omega)]
      rfl
    · simp only [q3z.j1]
      rw [if_neg (by simp)]
  | 0, x :: a, y :: b, out, h, _ => by simp at h
  | f + 1, x :: a, y :: b, out, h, ho => by
    have rx : rd_T33 (x :: a) 0 = x := rfl
    have ry : rd_T33 (y :: b) 0 = y := rfl
    have lx : (0 : Int) < ((x :: a).length : Int) := by simp only [List.length_cons]; omega
    have ly : (0 : Int) < ((y :: b).length : Int) := by simp only [List.length_cons]; omega
    have dx : (x :: a).drop (1 : Int).toNat = a := rfl
    have dy : (y :: b).drop (1 : Int).toNat = b := rfl
    simp only [List.length_cons] at h ho
    rw [meetL, ← List.append_assoc]
    have hj : ∀ o : List S33, o.length ≤ out.length + 1 → Ev (fun k => q3z.j2 k (x :: a) (y :: b) o (mn x.f1 y.f1)) (o ++ (if mn x.f1 y.f1 = 4294967295 then [] else if x.f1 = mn x.f1 y.f1 then meetL f a (y :: b) else meetL f (x :: a) b)) := fun o hoo => by
      by_cases hM : mn x.f1 y.f1 = 4294967295
      · rw [if_pos hM, List.append_nil]
        refine Ev.step (f := fun _ => some o) (fun k => ?_) (Ev.now o)
        simp only [q3z.j2]
        rw [if_pos hM]
      · rw [if_neg hM]
        by_cases hc : x.f1 = mn x.f1 y.f1
        · rw [if_pos hc]
          refine Ev.step (fun k => ?_) (meet_l0 f a (y :: b) o (by simp only [List.length_cons]; omega) (by simp only [List.length_cons]; omega))
          simp only [q3z.j2]
          rw [if_neg hM, if_pos lx, rx, if_pos hc, if_pos (by omega), dx]
        · rw [if_neg hc]
          refine Ev.step (fun k => ?_) (meet_l0 f (x :: a) b o (by simp only [List.length_cons]; omega) (by simp only [List.length_cons]; omega))
          simp only [q3z.j2]
          rw [if_neg hM, if_pos lx, rx, if_neg hc, if_pos (by omega), dy]
    refine Ev.step (f := fun k => q3z.j1 k (x :: a) (y :: b) out true) (fun k => ?_) ?_
    · simp only [q3z.l0]
      rw [if_pos (by omega), decide_eq_true (show ((y :: b).length : Int) > 0 from ly)]
    · by_cases hl : mx x.f0 y.f0 ≤ mn x.f1 y.f1
      · rw [if_pos hl]
        refine Ev.step (fun k => ?_) (hj (out ++ [⟨mx x.f0 y.f0, mn x.f1 y.f1⟩]) (by simp))
        simp only [q3z.j1]
        rw [if_pos trivial, if_pos lx, if_pos ly, rx, ry, if_pos hl, if_pos (by omega)]
      · rw [if_neg hl, List.append_nil]
        refine Ev.step (fun k => ?_) (hj out (by omega))
        simp only [q3z.j1]
        rw [if_pos trivial, if_pos lx, if_pos ly, rx, ry, if_neg hl]
theorem meet_ev (a b : List S33) (hal : a.length ≤ 1000000) (hbl : b.length ≤ 1000000) (ha : Rng a) (hb : Rng b) : ∃ r, Ev (fun k => q3z.f k a b) r ∧ NF r ∧ (∀ n, InS r n = (InS a n && InS b n)) ∧ r.length ≤ a.length + b.length := by
  obtain ⟨t, h1, h2, h3, h4⟩ := norm_ev a hal ha
  obtain ⟨u, k1, k2, k3, k4⟩ := norm_ev b hbl hb
  obtain ⟨p1, p2⟩ := meetL_nf (t.length + u.length) t u (Nat.le_refl _) h2 k2
  refine ⟨meetL (t.length + u.length) t u, ?_, p1, fun n => by rw [p2, h3, k3], Nat.le_trans (meetL_length _ t u) (by omega)⟩
  refine Ev.bind h1 (f := fun k t => (q1z.f k b).bind fun u => q3z.l0 k t u []) (Ev.bind k1 (f := fun k u => q3z.l0 k t u []) ?_)
  have := meet_l0 (t.length + u.length) t u [] (Nat.le_refl _) (by simp only [List.length_nil]; omega)
  rwa [List.nil_append] at this
/-! ### Union -/
theorem union_ev (a b : List S33) (hal : a.length ≤ 400000) (hbl : b.length ≤ 400000) (ha : Rng a) (hb : Rng b) : ∃ r, Ev (fun k => span_Union.f k a b) r ∧ NF r ∧ (∀ n, InS r n = (InS a n || InS b n)) ∧ r.length ≤ a.length + b.length := by
  obtain ⟨t, h1, h2, h3, h4⟩ := norm_ev (a ++ b) (by rw [List.length_append]; omega) (fun s hs => (List.mem_append.1 hs).elim (ha s) (hb s))
  refine ⟨t, Ev.congr (fun k => if_pos ⟨by omega, by omega⟩) h1, h2, fun n => by rw [h3, InS_append], by rw [List.length_append] at h4; exact h4⟩
end Go.Proofs.Ytconaifcjnpabaa.P
