/- Part of the proof of the law SpanSets: the functions that it reaches, by contract. -/
import Derived.Shelf.SlicesE.Compact
import Derived.Lib.Hide
import Derived.Test.YtconaifcjnpabaaCSpanSets0
namespace Go.Proofs.Ytconaifcjnpabaa.P
open Go.RowKit Go.Proofs.YtconaifcjnpabaaW.PrintWords Go.Proofs.YtconaifcjnpabaaW.PrintLast Go.Proofs.YtconaifcjnpabaaW.PrintMore
attribute [local go_sem] max2_int min2_int max_two min_two max_three min_three max_four min_four
set_option linter.unusedVariables false
set_option linter.unusedSimpArgs false

/-! ### dragomanref01_with: function 35 -/
mutual
def q6z.j1 : Nat → List Int → Int → Int → Option (List Int)
 | 0, _, _, _ => none
 | k + 1, x0, x1, x5 => if x5 < (x0.length : Int) then (if 0 ≤ x5 then (q6z.j2 k x0 x1 x5 ((rd x0 x5) == x1)) else (none)) else (q6z.j2 k x0 x1 x5 false)
def q6z.j2 : Nat → List Int → Int → Int → Bool → Option (List Int)
 | 0, _, _, _, _ => none
 | k + 1, x0, x1, x5, x32 => if x32 = true then (some x0) else (if x0.length < 35184372088832 then ((some (x0 ++ [0] : List Int)).bind fun y198 => (q6z.l1 k y198 x1 x5 (wrap64 ((y198.length : Int) - 1)))) else (none))
def q6z.l1 : Nat → List Int → Int → Int → Int → Option (List Int)
 | 0, _, _, _, _ => none
 | k + 1, x0, x1, x5, x6 => if x6 > x5 then (if 0 ≤ (wrap64 (x6 - 1)) then (if (wrap64 (x6 - 1)) < (x0.length : Int) then (if 0 ≤ x6 then (if x6 < (x0.length : Int) then (q6z.l1 k (x0.set (x6 : Int).toNat (rd x0 (wrap64 (x6 - 1)))) x1 x5 (wrap64 (x6 - 1))) else (none)) else (none)) else (none)) else (none)) else (if 0 ≤ x5 then (if x5 < (x0.length : Int) then (some (x0.set (x5 : Int).toNat x1)) else (none)) else (none))
def q6z.l0 : Nat → List Int → Int → Int → Option (List Int)
 | 0, _, _, _ => none
 | k + 1, x0, x1, x5 => if x5 < (x0.length : Int) then (if 0 ≤ x5 then (if (rd x0 x5) < x1 then (q6z.l0 k x0 x1 (wrap64 (x5 + 1))) else (q6z.j1 k x0 x1 x5)) else (none)) else (q6z.j1 k x0 x1 x5)
end
def q6z.f (k : Nat) (l0 : List Int) (a1 : Int) : Option (List Int) := q6z.l0 k l0 a1 0
theorem q6z.mono_l : ∀ k, (∀ y0 y1 y2, LeO (q6z.j1 k y0 y1 y2) (q6z.j1 (k + 1) y0 y1 y2)) ∧ (∀ y0 y1 y2 y3, LeO (q6z.j2 k y0 y1 y2 y3) (q6z.j2 (k + 1) y0 y1 y2 y3)) ∧ (∀ y0 y1 y2 y3, LeO (q6z.l1 k y0 y1 y2 y3) (q6z.l1 (k + 1) y0 y1 y2 y3)) ∧ (∀ y0 y1 y2, LeO (q6z.l0 k y0 y1 y2) (q6z.l0 (k + 1) y0 y1 y2))
 | 0 => ⟨fun _ _ _ r h => by simp [q6z.j1] at h, fun _ _ _ _ r h => by simp [q6z.j2] at h, fun _ _ _ _ r h => by simp [q6z.l1] at h, fun _ _ _ r h => by simp [q6z.l0] at h⟩
 | k + 1 => by
  obtain ⟨ih0, ih1, ih2, ih3⟩ := q6z.mono_l k
  refine ⟨?_, ?_, ?_, ?_⟩
  ·
   intro y0 y1 y2
   unfold q6z.j1
   repeat' first
   | (with_reducible exact ih0 _ _ _)
   | (with_reducible exact ih1 _ _ _ _)
   | (with_reducible exact ih2 _ _ _ _)
   | (with_reducible exact ih3 _ _ _)
   | (with_reducible exact LeO.refl _)
   | (with_reducible exact LeO.none _)
   | (with_reducible refine LeO.ite ?_ ?_)
   | (with_reducible refine LeO.bind ?_ (fun _ => ?_))
   | exact ih0 _ _ _
   | exact ih1 _ _ _ _
   | exact ih2 _ _ _ _
   | exact ih3 _ _ _
   | exact LeO.none _
   | refine LeO.ite ?_ ?_
   | refine LeO.bind ?_ (fun _ => ?_)
  ·
   intro y0 y1 y2 y3
   unfold q6z.j2
   repeat' first
   | (with_reducible exact ih0 _ _ _)
   | (with_reducible exact ih1 _ _ _ _)
   | (with_reducible exact ih2 _ _ _ _)
   | (with_reducible exact ih3 _ _ _)
   | (with_reducible exact LeO.refl _)
   | (with_reducible exact LeO.none _)
   | (with_reducible refine LeO.ite ?_ ?_)
   | (with_reducible refine LeO.bind ?_ (fun _ => ?_))
   | exact ih0 _ _ _
   | exact ih1 _ _ _ _
   | exact ih2 _ _ _ _
   | exact ih3 _ _ _
   | exact LeO.none _
   | refine LeO.ite ?_ ?_
   | refine LeO.bind ?_ (fun _ => ?_)
  ·
   intro y0 y1 y2 y3
   unfold q6z.l1
   repeat' first
   | (with_reducible exact ih0 _ _ _)
   | (with_reducible exact ih1 _ _ _ _)
   | (with_reducible exact ih2 _ _ _ _)
   | (with_reducible exact ih3 _ _ _)
   | (with_reducible exact LeO.refl _)
   | (with_reducible exact LeO.none _)
   | (with_reducible refine LeO.ite ?_ ?_)
   | (with_reducible refine LeO.bind ?_ (fun _ => ?_))
   | exact ih0 _ _ _
   | exact ih1 _ _ _ _
   | exact ih2 _ _ _ _
   | exact ih3 _ _ _
   | exact LeO.none _
   | refine LeO.ite ?_ ?_
   | refine LeO.bind ?_ (fun _ => ?_)
  ·
   intro y0 y1 y2
   unfold q6z.l0
   repeat' first
   | (with_reducible exact ih0 _ _ _)
   | (with_reducible exact ih1 _ _ _ _)
   | (with_reducible exact ih2 _ _ _ _)
   | (with_reducible exact ih3 _ _ _)
   | (with_reducible exact LeO.refl _)
   | (with_reducible exact LeO.none _)
   | (with_reducible refine LeO.ite ?_ ?_)
   | (with_reducible refine LeO.bind ?_ (fun _ => ?_))
   | exact ih0 _ _ _
   | exact ih1 _ _ _ _
   | exact ih2 _ _ _ _
   | exact ih3 _ _ _
   | exact LeO.none _
   | refine LeO.ite ?_ ?_
   | refine LeO.bind ?_ (fun _ => ?_)
theorem q6z.mono : ∀ a0 a1 k, LeO (q6z.f k a0 a1) (q6z.f (k + 1) a0 a1) := by
 intro a0 a1 k
 obtain ⟨ih0, ih1, ih2, ih3⟩ := q6z.mono_l k
 unfold q6z.f
 repeat' first
   | (with_reducible exact ih0 _ _ _)
   | (with_reducible exact ih1 _ _ _ _)
   | (with_reducible exact ih2 _ _ _ _)
   | (with_reducible exact ih3 _ _ _)
   | (with_reducible exact LeO.refl _)
   | (with_reducible exact LeO.none _)
   | (with_reducible refine LeO.ite ?_ ?_)
   | (with_reducible refine LeO.bind ?_ (fun _ => ?_))
   | exact ih0 _ _ _
   | exact ih1 _ _ _ _
   | exact ih2 _ _ _ _
   | exact ih3 _ _ _
   | exact LeO.none _
   | refine LeO.ite ?_ ?_
   | refine LeO.bind ?_ (fun _ => ?_)
set_option maxHeartbeats 8000000 in
set_option maxRecDepth 100000 in
theorem q6z.calls (k : Nat) (P0_ : Nat → Prop) (u9000_ : Value) (l0 : List Int) (a1 : Int) (r : List Int) (w0 w : World) (hB : Below w0.heap.size w0 w) (ho0 : Kd.R (Kd.int .u32) 29 w w0.heap.size P0_ u9000_ l0) (h : q6z.f k l0 a1 = some r) :
  Calls Try.prog 35 #[u9000_, .int .u32 a1] w fun e w' => ∃ v0_ : Value, e = .returned (v0_) ∧ Kd.R (Kd.int .u32) 29 w' w0.heap.size (fun k_ => (P0_ k_ ∨ w.heap.size ≤ k_)) v0_ r ∧ Below w0.heap.size w0 w' ∧ Kept w w' (fun k_ => P0_ k_) := by
 have HO0 := Aside0.mk (show Kd.R (Kd.int .u32) 29 w w0.heap.size (fun k_ => (P0_ k_ ∨ w.heap.size ≤ k_)) u9000_ l0 from Kd.R_mono ho0 (fun k_ hk => (.inl hk)))
 have HK := Aside0.mk (Kept.refl w (fun k_ => P0_ k_))
 have HW0 := Aside0.mk hB.size
 have HB := Aside0.mk hB
 clear hB
 have H : (q6z.l0 k l0 a1 0) = some r := h
 clear h
 have HC3 := Aside0.mk H
 clear H
 go_enter Try.func35, Try.ntmps35
 go_upto_block 0 with (fail)
 go_cut [5] (fun v5 wc => ∃ (kq : Nat) (x5_2 : Int), v5 = .int .i64 x5_2 ∧ Aside0 (q6z.j1 kq l0 a1 x5_2 = some r) ∧ Aside0 (kq ≤ k) ∧ Aside0 (Kd.R (Kd.int .u32) 29 wc w0.heap.size (fun k_ => (P0_ k_ ∨ w.heap.size ≤ k_)) u9000_ l0) ∧ Aside0 (Kept w wc (fun k_ => P0_ k_)) ∧ Aside0 (Below w0.heap.size w0 wc))
 case first =>
  have H := HC3.out
  clear HC3
  have H' := Aside0.mk H
  clear H
  go_wp2
  go_loopg [5] k (fun kq v5 w' => ∃ (x5_1 : Int), v5 = .int .i64 x5_1 ∧ Aside0 (q6z.l0 kq l0 a1 x5_1 = some r) ∧ Aside0 (kq ≤ k) ∧ Aside0 (Kd.R (Kd.int .u32) 29 w' w0.heap.size (fun k_ => (P0_ k_ ∨ w.heap.size ≤ k_)) u9000_ l0) ∧ Aside0 (Kept w w' (fun k_ => P0_ k_)) ∧ Aside0 (Below w0.heap.size w0 w'))
  case atStart => exact ⟨(0), (by first | rfl | (simp; done) | (simp [*]; done)), H', ⟨Nat.le_refl _⟩, ⟨by (with_reducible repeat (first | apply Kd.R_alloc | apply Kd.R_drewN | apply Kd.R_drew)); exact HO0.out⟩, ⟨by repeat (first | (with_reducible first | exact HK.out | apply Kept.alloc | apply Kept.drewN | apply Kept.drew) | exact HK.out)⟩, ⟨by repeat (first | (with_reducible first | exact HB.out | apply below_alloc | apply pw_below_drewN | apply below_drew1) | exact HB.out)⟩⟩
  case round =>
   clear H'
   try clear p2
   try clear c3
   obtain ⟨x5_1, rfl, HA, HK1, HO_0, HK, HB⟩ := hrel
   cases gk with
   | zero => exact absurd HA.out (by simp [q6z.l0])
   | succ k1 =>
    have H := HA.out
    clear HA
    simp only [q6z.l0] at H
    by_cases c4 : x5_1 < (l0.length : Int)
    ·
     rw [if_pos c4] at H
     have c4b0 : decide (x5_1 < (l0.length : Int)) = true := decide_eq_true c4
     clear c4
     (first | rw [c4b0] | (simp only [i64_w, i32_w, IntKind.wrap_u32]; rw [c4b0]) | skip)
     by_cases c5 : 0 ≤ x5_1
     ·
      rw [if_pos c5] at H
      have c5b0 : decide (0 ≤ x5_1) = true := decide_eq_true c5
      clear c5
      by_cases c6 : (rd l0 x5_1) < a1
      ·
       rw [if_pos c6] at H
       have c6b0 : decide ((rd l0 x5_1) < a1) = true := decide_eq_true c6
       clear c6
       have H' := Aside0.mk H
       clear H
       obtain ⟨Ao7, co7, eo7⟩ := Kd.R_slice HO_0.out
       subst eo7
       have p196 : 0 ≤ (x5_1 : Int) := of_decide_eq_true (by first | (with_reducible assumption) | assumption)
       have q196 : x5_1 < (l0.length : Int) := of_decide_eq_true (by first | (with_reducible assumption) | assumption)
       obtain ⟨ad196, e196, hx196_0⟩ := Kd.at_int (Kd.R_reads' HO_0.out).2.2 x5_1 p196 q196
       cases e196
       replace p196 := eq_true p196
       replace q196 := eq_true q196
       go_wp2
       go_roundg k1
       case measure => have := HK1.out; omega
       case rel => exact ⟨(wrap64 (x5_1 + 1)), (by first | rfl | (simp; done) | (simp [*]; done)), H', ⟨by have := HK1.out; omega⟩, ⟨by (with_reducible repeat (first | apply Kd.R_alloc | apply Kd.R_drewN | apply Kd.R_drew)); exact HO_0.out⟩, ⟨by repeat (first | (with_reducible first | exact HK.out | apply Kept.alloc | apply Kept.drewN | apply Kept.drew) | exact HK.out)⟩, ⟨by repeat (first | (with_reducible first | exact HB.out | apply below_alloc | apply pw_below_drewN | apply below_drew1) | exact HB.out)⟩⟩
      ·
       rw [if_neg c6] at H
       have c6b0 : decide ((rd l0 x5_1) < a1) = false := decide_eq_false c6
       clear c6
       have H' := Aside0.mk H
       clear H
       obtain ⟨Ao8, co8, eo8⟩ := Kd.R_slice HO_0.out
       subst eo8
       have p196 : 0 ≤ (x5_1 : Int) := of_decide_eq_true (by first | (with_reducible assumption) | assumption)
       have q196 : x5_1 < (l0.length : Int) := of_decide_eq_true (by first | (with_reducible assumption) | assumption)
       obtain ⟨ad196, e196, hx196_0⟩ := Kd.at_int (Kd.R_reads' HO_0.out).2.2 x5_1 p196 q196
       cases e196
       replace p196 := eq_true p196
       replace q196 := eq_true q196
       go_wp2
       go_meet
       case rel => exact ⟨_, (x5_1), (by first | rfl | (simp; done) | (simp [*]; done)), H', ⟨by have := HK1.out; first | omega | exact Nat.le_refl _⟩, ⟨by (with_reducible repeat (first | apply Kd.R_alloc | apply Kd.R_drewN | apply Kd.R_drew)); exact HO_0.out⟩, ⟨by repeat (first | (with_reducible first | exact HK.out | apply Kept.alloc | apply Kept.drewN | apply Kept.drew) | exact HK.out)⟩, ⟨by repeat (first | (with_reducible first | exact HB.out | apply below_alloc | apply pw_below_drewN | apply below_drew1) | exact HB.out)⟩⟩
     ·
      rw [if_neg c5] at H
      exact absurd H (by simp)
    ·
     rw [if_neg c4] at H
     have c4b0 : decide (x5_1 < (l0.length : Int)) = false := decide_eq_false c4
     clear c4
     (first | rw [c4b0] | (simp only [i64_w, i32_w, IntKind.wrap_u32]; rw [c4b0]) | skip)
     have H' := Aside0.mk H
     clear H
     obtain ⟨Ao9, co9, eo9⟩ := Kd.R_slice HO_0.out
     subst eo9
     go_wp2
     go_meet
     case rel => exact ⟨_, (x5_1), (by first | rfl | (simp; done) | (simp [*]; done)), H', ⟨by have := HK1.out; first | omega | exact Nat.le_refl _⟩, ⟨by (with_reducible repeat (first | apply Kd.R_alloc | apply Kd.R_drewN | apply Kd.R_drew)); exact HO_0.out⟩, ⟨by repeat (first | (with_reducible first | exact HK.out | apply Kept.alloc | apply Kept.drewN | apply Kept.drew) | exact HK.out)⟩, ⟨by repeat (first | (with_reducible first | exact HB.out | apply below_alloc | apply pw_below_drewN | apply below_drew1) | exact HB.out)⟩⟩
 case rest =>
  clear HC3
  try clear p1
  try clear q1
  try clear hx1
  try clear p2
  try clear c3
  try clear c4
  try clear c4b0
  try clear c5
  try clear c5b0
  try clear c6
  try clear c6b0
  try clear p6
  try clear hx196_0
  try clear p196
  try clear p2
  try clear q196
  obtain ⟨kq, x5_2, rfl, HA, HJ2, HO_0, HK, HB⟩ := hcut
  cases kq with
  | zero => exact absurd HA.out (by simp [q6z.j1])
  | succ kj2 =>
   have H := HA.out
   clear HA
   simp only [q6z.j1] at H
   have HC10 := Aside0.mk H
   clear H
   go_upto_region 4 with (fail)
   go_cut [32] (fun v32 wc => ∃ (kq : Nat) (x32_9 : Bool), v32 = .bool x32_9 ∧ Aside0 (q6z.j2 kq l0 a1 x5_2 x32_9 = some r) ∧ Aside0 (kq ≤ kj2) ∧ Aside0 (Kd.R (Kd.int .u32) 29 wc w0.heap.size (fun k_ => (P0_ k_ ∨ w.heap.size ≤ k_)) u9000_ l0) ∧ Aside0 (Kept w wc (fun k_ => P0_ k_)) ∧ Aside0 (Below w0.heap.size w0 wc))
   case first =>
    have H := HC10.out
    clear HC10
    by_cases c11 : x5_2 < (l0.length : Int)
    ·
     rw [if_pos c11] at H
     have c11b0 : decide (x5_2 < (l0.length : Int)) = true := decide_eq_true c11
     clear c11
     (first | rw [c11b0] | (simp only [i64_w, i32_w, IntKind.wrap_u32]; rw [c11b0]) | skip)
     by_cases c12 : 0 ≤ x5_2
     ·
      rw [if_pos c12] at H
      have c12b0 : decide (0 ≤ x5_2) = true := decide_eq_true c12
      clear c12
      have H' := Aside0.mk H
      clear H
      obtain ⟨Ao13, co13, eo13⟩ := Kd.R_slice HO_0.out
      subst eo13
      have p197 : 0 ≤ (x5_2 : Int) := of_decide_eq_true (by first | (with_reducible assumption) | assumption)
      have q197 : x5_2 < (l0.length : Int) := of_decide_eq_true (by first | (with_reducible assumption) | assumption)
      obtain ⟨ad197, e197, hx197_0⟩ := Kd.at_int (Kd.R_reads' HO_0.out).2.2 x5_2 p197 q197
      cases e197
      replace p197 := eq_true p197
      replace q197 := eq_true q197
      go_wp2
      go_meet
      case rel => exact ⟨_, (((rd l0 x5_2) == a1)), (by first | rfl | (simp; done) | (simp [*]; done)), H', ⟨by have := HJ2.out; first | omega | exact Nat.le_refl _⟩, ⟨by (with_reducible repeat (first | apply Kd.R_alloc | apply Kd.R_drewN | apply Kd.R_drew)); exact HO_0.out⟩, ⟨by repeat (first | (with_reducible first | exact HK.out | apply Kept.alloc | apply Kept.drewN | apply Kept.drew) | exact HK.out)⟩, ⟨by repeat (first | (with_reducible first | exact HB.out | apply below_alloc | apply pw_below_drewN | apply below_drew1) | exact HB.out)⟩⟩
     ·
      rw [if_neg c12] at H
      exact absurd H (by simp)
    ·
     rw [if_neg c11] at H
     have c11b0 : decide (x5_2 < (l0.length : Int)) = false := decide_eq_false c11
     clear c11
     (first | rw [c11b0] | (simp only [i64_w, i32_w, IntKind.wrap_u32]; rw [c11b0]) | skip)
     have H' := Aside0.mk H
     clear H
     obtain ⟨Ao14, co14, eo14⟩ := Kd.R_slice HO_0.out
     subst eo14
     go_wp2
     go_meet
     case rel => exact ⟨_, (false), (by first | rfl | (simp; done) | (simp [*]; done)), H', ⟨by have := HJ2.out; first | omega | exact Nat.le_refl _⟩, ⟨by (with_reducible repeat (first | apply Kd.R_alloc | apply Kd.R_drewN | apply Kd.R_drew)); exact HO_0.out⟩, ⟨by repeat (first | (with_reducible first | exact HK.out | apply Kept.alloc | apply Kept.drewN | apply Kept.drew) | exact HK.out)⟩, ⟨by repeat (first | (with_reducible first | exact HB.out | apply below_alloc | apply pw_below_drewN | apply below_drew1) | exact HB.out)⟩⟩
   case rest =>
    clear HC10
    try clear c1
    try clear p1
    try clear q1
    try clear hx1
    try clear p2
    try clear c3
    try clear c4
    try clear c4b0
    try clear c5
    try clear c5b0
    try clear c6
    try clear c6b0
    try clear p6
    try clear c11
    try clear c11b0
    try clear c12
    try clear c12b0
    try clear hx196_0
    try clear hx197_0
    try clear p1
    try clear p196
    try clear p197
    try clear p2
    try clear p6
    try clear q1
    try clear q196
    try clear q197
    obtain ⟨kq, x32_9, rfl, HA, HJ9, HO_0, HK, HB⟩ := hcut
    cases kq with
    | zero => exact absurd HA.out (by simp [q6z.j2])
    | succ kj9 =>
     have H := HA.out
     clear HA
     simp only [q6z.j2] at H
     by_cases c15 : x32_9 = true
     ·
      subst c15
      have H1 : (some l0) = some r := by rw [if_pos rfl] at H; exact H
      clear H
      have H := H1
      clear H1
      obtain rfl := Option.some.inj H
      go_wp2
      go_ret
      exact ⟨_, by first | rfl | (simp [errW_none, errW_some] <;> rfl) | (simp [*, errW_none, errW_some] <;> rfl), by (with_reducible repeat (first | apply Kd.R_alloc | apply Kd.R_drewN | apply Kd.R_drew)); exact HO_0.out, by repeat (first | (with_reducible first | exact HB.out | apply below_alloc | apply pw_below_drewN | apply below_drew1) | exact HB.out), by repeat (first | (with_reducible first | exact HK.out | apply Kept.alloc | apply Kept.drewN | apply Kept.drew) | exact HK.out)⟩
     ·
      replace c15 := Bool.eq_false_iff.mpr c15
      subst c15
      have H1 : (if l0.length < 35184372088832 then ((some (l0 ++ [0] : List Int)).bind fun y198 => (q6z.l1 kj9 y198 a1 x5_2 (wrap64 ((y198.length : Int) - 1)))) else (none)) = some r := by rw [if_neg (show ¬ (false = true) by decide)] at H; exact H
      clear H
      have H := H1
      clear H1
      by_cases c16 : l0.length < 35184372088832
      ·
       rw [if_pos c16] at H
       have LMc16 := Aside0.mk c16
       clear c16
       obtain ⟨y198, hy198⟩ : ∃ y_ : List Int, y_ = (l0 ++ [0]) := ⟨_, rfl⟩
       replace H : (q6z.l1 kj9 y198 a1 x5_2 (wrap64 ((y198.length : Int) - 1))) = some r := by first | (rw [hy198]; with_reducible exact H) | (have H2_ := (Option.bind_some _ _).symm.trans H; rw [hy198]; with_reducible exact H2_) | (have H2_ := (Option.bind_some _ _).symm.trans H; with_reducible exact H2_) | with_reducible exact H | (rw [hy198]; exact H) | exact H
       have Ny198 := Aside0.mk hy198
       clear hy198
       have H' := Aside0.mk H
       clear H
       go_wp2_with (first | ((with_reducible refine gate_builtin (b := .append) (xs := #[.tmp 34, .tmp 35]) rfl ?_); at_builtin; refine Kd.R_append (Kd.int .u32) (w0 := w0) w0.heap.size rfl (.tmp 34) (.tmp 35) 37 29 (.int .u32 0) 4 rfl Try.underlying37 info29 rfl (by decide) (by omega) u9000_ l0 0 [.int .u32 0] (fun k_ => (P0_ k_ ∨ w.heap.size ≤ k_)) (fun _ => False) rfl rfl ?aP (fun _ hk => hk.elim) ?aF ?aO ?aB ?aS ?aL ?_; (case aP => exact rfl); (case aB => exact (by repeat (first | (with_reducible first | exact HB.out | apply below_alloc | apply pw_below_drewN | apply below_drew1) | exact HB.out))); (case aF => exact (fun k_ hk => (.inr (Nat.le_trans (by first | exact HK.out.1 | exact (show Kept w _ (fun k_ => P0_ k_) from by repeat (first | (with_reducible first | exact HK.out | apply Kept.alloc | apply Kept.drewN | apply Kept.drew) | exact HK.out)).1) hk)))); (case aO => exact (by (with_reducible repeat (first | apply Kd.R_alloc | apply Kd.R_drewN | apply Kd.R_drew)); exact HO_0.out)); (case aS => exact (below_size (by repeat (first | (with_reducible first | exact HB.out | apply below_alloc | apply pw_below_drewN | apply below_drew1) | exact HB.out)))); (case aL => have := LMc16.out; omega); intro v199 w17 ho hb hg hat; rw [← Ny198.out] at ho; have n0_ := Aside0.mk (hb); have n1_ := Aside0.mk (Kept.of_grown (S := (fun k_ => P0_ k_)) hg (by repeat (first | (with_reducible first | exact HK.out | apply Kept.alloc | apply Kept.drewN | apply Kept.drew) | exact HK.out)) (fun k_ e_ => (HO_0.out.1 k_ e_))); have n2_ := Aside0.mk (ho); clear HB; clear HK; clear HO_0; have HB := n0_; have HK := n1_; have HO200 := n2_; clear n0_ n1_ n2_; clear ho hb hg hat; obtain ⟨Ao18, co18, eo18⟩ := Kd.R_slice HO200.out; subst eo18))
       go_loopg [6] kj9 (fun kq v6 w' => ∃ (x0_3 : List Int) (x6_3 : Int), v6 = .int .i64 x6_3 ∧ Aside0 (q6z.l1 kq x0_3 a1 x5_2 x6_3 = some r) ∧ Aside0 (kq ≤ kj9) ∧ Aside0 (Kd.R (Kd.int .u32) 29 w' w0.heap.size (fun k_ => (P0_ k_ ∨ w.heap.size ≤ k_)) (.slice Ao18 y198.length co18) x0_3) ∧ Aside0 (Kept w w' (fun k_ => P0_ k_)) ∧ Aside0 (Below w0.heap.size w0 w'))
       case atStart => exact ⟨(y198), (wrap64 ((y198.length : Int) - 1)), (by first | rfl | (simp; done) | (simp [*]; done)), H', ⟨Nat.le_refl _⟩, ⟨by (with_reducible repeat (first | apply Kd.R_alloc | apply Kd.R_drewN | apply Kd.R_drew)); exact HO200.out⟩, ⟨by repeat (first | (with_reducible first | exact HK.out | apply Kept.alloc | apply Kept.drewN | apply Kept.drew) | exact HK.out)⟩, ⟨by repeat (first | (with_reducible first | exact HB.out | apply below_alloc | apply pw_below_drewN | apply below_drew1) | exact HB.out)⟩⟩
       case round =>
        clear H'
        try clear c1
        try clear p1
        try clear q1
        try clear hx1
        try clear p2
        try clear c3
        try clear c4
        try clear c4b0
        try clear c5
        try clear c5b0
        try clear c6
        try clear c6b0
        try clear p6
        try clear c11
        try clear c11b0
        try clear c12
        try clear c12b0
        try clear c15
        try clear c16
        try clear hx196_0
        try clear hx197_0
        try clear p1
        try clear p196
        try clear p197
        try clear p2
        try clear p6
        try clear q1
        try clear q196
        try clear q197
        obtain ⟨x0_3, x6_3, rfl, HA, HK3, HO_0, HK, HB⟩ := hrel
        have hl0_3 := (Kd.R_reads' HO_0.out).1
        rw [hl0_3] at HO_0
        (try simp only [hl0_3])
        cases gk with
        | zero => exact absurd HA.out (by simp [q6z.l1])
        | succ k3 =>
         have H := HA.out
         clear HA
         simp only [q6z.l1] at H
         by_cases c19 : x6_3 > x5_2
         ·
          rw [if_pos c19] at H
          have c19b0 : decide (x5_2 < x6_3) = true := decide_eq_true c19
          clear c19
          obtain ⟨ji20, hji20⟩ : ∃ j_ : Int, (wrap64 (x6_3 - 1)) = j_ := ⟨_, rfl⟩
          replace H : (if 0 ≤ (ji20) then (if (ji20) < (x0_3.length : Int) then (if 0 ≤ x6_3 then (if x6_3 < (x0_3.length : Int) then (q6z.l1 k3 (x0_3.set (x6_3 : Int).toNat (rd x0_3 (ji20))) a1 x5_2 ji20) else (none)) else (none)) else (none)) else (none)) = some r := by first | (rw [hji20] at H; exact H) | (simp only [hji20] at H ⊢; exact H)
          have hji20w : (IntKind.i64.wrap (x6_3 - 1)) = ji20 := (i64_w _).trans hji20
          by_cases c21 : 0 ≤ (ji20)
          ·
           rw [if_pos c21] at H
           have c21b0 : decide (0 ≤ (ji20)) = true := decide_eq_true c21
           clear c21
           by_cases c22 : (ji20) < (x0_3.length : Int)
           ·
            rw [if_pos c22] at H
            have c22b0 : decide ((ji20) < (x0_3.length : Int)) = true := decide_eq_true c22
            clear c22
            by_cases c23 : 0 ≤ x6_3
            ·
             rw [if_pos c23] at H
             have c23b0 : decide (0 ≤ x6_3) = true := decide_eq_true c23
             clear c23
             by_cases c24 : x6_3 < (x0_3.length : Int)
             ·
              rw [if_pos c24] at H
              have c24b0 : decide (x6_3 < (x0_3.length : Int)) = true := decide_eq_true c24
              clear c24
              obtain ⟨y202, hy202⟩ : ∃ y_ : List Int, y_ = (x0_3.set (x6_3 : Int).toNat (rd x0_3 (ji20))) := ⟨_, rfl⟩
              replace H : (q6z.l1 k3 y202 a1 x5_2 ji20) = some r := by first | (rw [hy202]; with_reducible exact H) | (have H2_ := (Option.bind_some _ _).symm.trans H; rw [hy202]; with_reducible exact H2_) | (have H2_ := (Option.bind_some _ _).symm.trans H; with_reducible exact H2_) | with_reducible exact H | (rw [hy202]; exact H) | exact H
              have Ny202 := Aside0.mk hy202
              clear hy202
              have H' := Aside0.mk H
              clear H
              have p201 : 0 ≤ ((ji20) : Int) := of_decide_eq_true (by first | (with_reducible assumption) | assumption)
              have q201 : (ji20) < (x0_3.length : Int) := of_decide_eq_true (by first | (with_reducible assumption) | assumption)
              obtain ⟨ad201, e201, hx201_0⟩ := Kd.at_int (Kd.R_reads' HO_0.out).2.2 (ji20) p201 q201
              cases e201
              replace p201 := eq_true p201
              replace q201 := eq_true q201
              have p25 : 0 ≤ (x6_3 : Int) := of_decide_eq_true (by first | (with_reducible assumption) | assumption)
              have q25 : (x6_3 : Int) < ((x0_3.length : Int) : Int) := of_decide_eq_true (by first | (with_reducible assumption) | assumption)
              obtain ⟨go25, co25, eo25, gb25, gl25, cl25, HG25⟩ := Kd.R_form HO_0.out (by omega)
              (first | cases eo25 | (injection eo25 with ea_ en_ ec_; (first | subst ea_ | (injection ea_ with ea_; subst ea_)); subst ec_; clear en_))
              have GB25 := Aside0.mk gb25
              have GG25 := Aside0.mk HG25
              clear gb25 gl25 HG25
              have HMgo25 := Aside0.mk (show (P0_ go25 ∨ w.heap.size ≤ go25) from (HO_0.out.1 _ rfl))
              (first | simp only [add_plain] at hx201_0 | skip)
              obtain ⟨hx25_0, hf25_0⟩ := Kd.R_celln 0 HO_0.out (x6_3 : Int) p25 q25
              replace p25 := eq_true p25
              replace q25 := eq_true q25
              have HP26 := Kd.R_putg HO_0.out (x6_3 : Int) (rd x0_3 (ji20))
              go_wp2_with (first | ((with_reducible refine gate_store (t := 29) (p := 52) rfl ?_); refine store_event (t := 29) (p := 52) (v := ?vo_w27) (w1 := (wr.setCell ⟨go25, (x6_3 : Int).toNat, none⟩ (.int .u32 (rd x0_3 (ji20))))) ?hg ?ho ?hn ?hr ?_; (case ho => rfl); (case hg => rfl); (case hn => rfl); (case hr => first | (go_simp; done) | (go_simp; rfl)); intro w27 hw; have hg : wr.grownBy w27 (some go25) := (by rw [hw]; exact HP26.2); have hp_ : Kd.R (Kd.int .u32) 29 w27 w0.heap.size (fun k_ => (P0_ k_ ∨ w.heap.size ≤ k_)) (.slice (some ⟨go25, 0, none⟩) x0_3.length co18) y202 := (by rw [hw, Ny202.out]; exact HP26.1); clear HP26; have n0_ := Aside0.mk (hp_); have n1_ := Aside0.mk ((by rw [hw]; exact below_set (HB.out) GB25.out : Below w0.heap.size w0 w27)); have n2_ := Aside0.mk (Kept.of_grown (S := (fun k_ => P0_ k_)) hg (by repeat (first | (with_reducible first | exact HK.out | apply Kept.alloc | apply Kept.drewN | apply Kept.drew) | exact HK.out)) (fun k_ e_ => (HO_0.out.1 k_ e_))); clear HO_0; clear HB; clear HK; have HO_0 := n0_; have HB := n1_; have HK := n2_; clear n0_ n1_ n2_; clear hg hw hp_))
              (try simp only [← hl0_3])
              go_roundg k3
              case measure => have := HJ2.out; have := HJ9.out; have := HK3.out; omega
              case rel => exact ⟨(y202), (ji20), (by first | rfl | (simp; done) | (simp only [← hji20] <;> (first | rfl | simp)) | (simp [*]; done)), H', ⟨by have := HJ2.out; have := HJ9.out; have := HK3.out; omega⟩, ⟨by (try simp only [hl0_3]); (with_reducible repeat (first | apply Kd.R_alloc | apply Kd.R_drewN | apply Kd.R_drew)); exact HO_0.out⟩, ⟨by repeat (first | (with_reducible first | exact HK.out | apply Kept.alloc | apply Kept.drewN | apply Kept.drew) | exact HK.out)⟩, ⟨by repeat (first | (with_reducible first | exact HB.out | apply below_alloc | apply pw_below_drewN | apply below_drew1) | exact HB.out)⟩⟩
             ·
              rw [if_neg c24] at H
              exact absurd H (by simp)
            ·
             rw [if_neg c23] at H
             exact absurd H (by simp)
           ·
            rw [if_neg c22] at H
            exact absurd H (by simp)
          ·
           rw [if_neg c21] at H
           exact absurd H (by simp)
         ·
          rw [if_neg c19] at H
          have c19b0 : decide (x5_2 < x6_3) = false := decide_eq_false c19
          clear c19
          by_cases c28 : 0 ≤ x5_2
          ·
           rw [if_pos c28] at H
           have c28b0 : decide (0 ≤ x5_2) = true := decide_eq_true c28
           clear c28
           by_cases c29 : x5_2 < (x0_3.length : Int)
           ·
            rw [if_pos c29] at H
            have c29b0 : decide (x5_2 < (x0_3.length : Int)) = true := decide_eq_true c29
            clear c29
            obtain ⟨y203, hy203⟩ : ∃ y_ : List Int, y_ = (x0_3.set (x5_2 : Int).toNat a1) := ⟨_, rfl⟩
            replace H : (some y203) = some r := by first | (rw [hy203]; with_reducible exact H) | (have H2_ := (Option.bind_some _ _).symm.trans H; rw [hy203]; with_reducible exact H2_) | (have H2_ := (Option.bind_some _ _).symm.trans H; with_reducible exact H2_) | with_reducible exact H | (rw [hy203]; exact H) | exact H
            have Ny203 := Aside0.mk hy203
            clear hy203
            obtain rfl := Option.some.inj H
            have p30 : 0 ≤ (x5_2 : Int) := of_decide_eq_true (by first | (with_reducible assumption) | assumption)
            have q30 : (x5_2 : Int) < ((x0_3.length : Int) : Int) := of_decide_eq_true (by first | (with_reducible assumption) | assumption)
            obtain ⟨go30, co30, eo30, gb30, gl30, cl30, HG30⟩ := Kd.R_form HO_0.out (by omega)
            (first | cases eo30 | (injection eo30 with ea_ en_ ec_; (first | subst ea_ | (injection ea_ with ea_; subst ea_)); subst ec_; clear en_))
            have GB30 := Aside0.mk gb30
            have GG30 := Aside0.mk HG30
            clear gb30 gl30 HG30
            have HMgo30 := Aside0.mk (show (P0_ go30 ∨ w.heap.size ≤ go30) from (HO_0.out.1 _ rfl))
            obtain ⟨hx30_0, hf30_0⟩ := Kd.R_celln 0 HO_0.out (x5_2 : Int) p30 q30
            replace p30 := eq_true p30
            replace q30 := eq_true q30
            have HP31 := Kd.R_putg HO_0.out (x5_2 : Int) a1
            go_wp2_with (first | ((with_reducible refine gate_store (t := 29) (p := 56) rfl ?_); refine store_event (t := 29) (p := 56) (v := ?vo_w32) (w1 := (wr.setCell ⟨go30, (x5_2 : Int).toNat, none⟩ (.int .u32 a1))) ?hg ?ho ?hn ?hr ?_; (case ho => rfl); (case hg => rfl); (case hn => rfl); (case hr => first | (go_simp; done) | (go_simp; rfl)); intro w32 hw; have hg : wr.grownBy w32 (some go30) := (by rw [hw]; exact HP31.2); have hp_ : Kd.R (Kd.int .u32) 29 w32 w0.heap.size (fun k_ => (P0_ k_ ∨ w.heap.size ≤ k_)) (.slice (some ⟨go30, 0, none⟩) x0_3.length co18) y203 := (by rw [hw, Ny203.out]; exact HP31.1); clear HP31; have n0_ := Aside0.mk (hp_); have n1_ := Aside0.mk ((by rw [hw]; exact below_set (HB.out) GB30.out : Below w0.heap.size w0 w32)); have n2_ := Aside0.mk (Kept.of_grown (S := (fun k_ => P0_ k_)) hg (by repeat (first | (with_reducible first | exact HK.out | apply Kept.alloc | apply Kept.drewN | apply Kept.drew) | exact HK.out)) (fun k_ e_ => (HO_0.out.1 k_ e_))); clear HO_0; clear HB; clear HK; have HO_0 := n0_; have HB := n1_; have HK := n2_; clear n0_ n1_ n2_; clear hg hw hp_))
            go_ret
            exact ⟨_, by first | rfl | (simp [errW_none, errW_some] <;> rfl) | (simp [*, errW_none, errW_some] <;> rfl), by (with_reducible repeat (first | apply Kd.R_alloc | apply Kd.R_drewN | apply Kd.R_drew)); exact HO_0.out, by repeat (first | (with_reducible first | exact HB.out | apply below_alloc | apply pw_below_drewN | apply below_drew1) | exact HB.out), by repeat (first | (with_reducible first | exact HK.out | apply Kept.alloc | apply Kept.drewN | apply Kept.drew) | exact HK.out)⟩
           ·
            rw [if_neg c29] at H
            exact absurd H (by simp)
          ·
           rw [if_neg c28] at H
           exact absurd H (by simp)
      ·
       rw [if_neg c16] at H
       exact absurd H (by simp)

end Go.Proofs.Ytconaifcjnpabaa.P

namespace Go.Proofs.Ytconaifcjnpabaa.P
open Go.RowKit Go.Proofs.YtconaifcjnpabaaW.PrintWords Go.Proofs.YtconaifcjnpabaaW.PrintLast Go.Proofs.YtconaifcjnpabaaW.PrintMore
attribute [local go_sem] max2_int min2_int max_two min_two max_three min_three max_four min_four
set_option linter.unusedVariables false
set_option linter.unusedSimpArgs false

/-! ### dragomanref01_begins: function 24 -/
mutual
def q7z.l0 : Nat → List Int → List (List (S33)) → Int → Int → Option (List Int)
 | 0, _, _, _, _ => none
 | k + 1, x3, x9, x10, x11 => if x11 < x10 then (if 0 ≤ x11 then (if x11 < (x9.length : Int) then (q7z.l1 k x3 x9 x10 x11 (rd_L2 x9 x11) ((rd_L2 x9 x11).length : Int) 0) else (none)) else (none)) else (some x3)
def q7z.l1 : Nat → List Int → List (List (S33)) → Int → Int → List (S33) → Int → Int → Option (List Int)
 | 0, _, _, _, _, _, _, _ => none
 | k + 1, x3, x9, x10, x11, x15, x16, x17 => if x17 < x16 then (if 0 ≤ x17 then (if x17 < (x15.length : Int) then (if ((rd_T33 x15 x17).f0) > ((rd_T33 x15 x17).f1) then (q7z.l1 k x3 x9 x10 x11 x15 x16 (wrap64 (x17 + 1))) else ((q6z.f k x3 ((rd_T33 x15 x17).f0)).bind fun t210 => (if ((rd_T33 x15 x17).f1) < 4294967295 then ((q6z.f k t210 ((((rd_T33 x15 x17).f1) + 1) % 4294967296)).bind fun t213 => (q7z.l1 k t213 x9 x10 x11 x15 x16 (wrap64 (x17 + 1)))) else (q7z.l1 k t210 x9 x10 x11 x15 x16 (wrap64 (x17 + 1)))))) else (none)) else (none)) else (q7z.l0 k x3 x9 x10 (wrap64 (x11 + 1)))
end
def q7z.f (k : Nat) (l0 : List (List (S33))) : Option (List Int) := q7z.l0 k (([0] : List Int)) l0 (l0.length : Int) 0
theorem q7z.mono_l : ∀ k, (∀ y0 y1 y2 y3, LeO (q7z.l0 k y0 y1 y2 y3) (q7z.l0 (k + 1) y0 y1 y2 y3)) ∧ (∀ y0 y1 y2 y3 y4 y5 y6, LeO (q7z.l1 k y0 y1 y2 y3 y4 y5 y6) (q7z.l1 (k + 1) y0 y1 y2 y3 y4 y5 y6))
 | 0 => ⟨fun _ _ _ _ r h => by simp [q7z.l0] at h, fun _ _ _ _ _ _ _ r h => by simp [q7z.l1] at h⟩
 | k + 1 => by
  obtain ⟨ih0, ih1⟩ := q7z.mono_l k
  refine ⟨?_, ?_⟩
  ·
   intro y0 y1 y2 y3
   unfold q7z.l0
   repeat' first
   | (with_reducible exact ih0 _ _ _ _)
   | (with_reducible exact ih1 _ _ _ _ _ _ _)
   | (with_reducible exact q6z.mono _ _ _)
   | (with_reducible exact LeO.refl _)
   | (with_reducible exact LeO.none _)
   | (with_reducible refine LeO.ite ?_ ?_)
   | (with_reducible refine LeO.bind ?_ (fun _ => ?_))
   | exact ih0 _ _ _ _
   | exact ih1 _ _ _ _ _ _ _
   | exact q6z.mono _ _ _
   | exact LeO.none _
   | refine LeO.ite ?_ ?_
   | refine LeO.bind ?_ (fun _ => ?_)
  ·
   intro y0 y1 y2 y3 y4 y5 y6
   unfold q7z.l1
   repeat' first
   | (with_reducible exact ih0 _ _ _ _)
   | (with_reducible exact ih1 _ _ _ _ _ _ _)
   | (with_reducible exact q6z.mono _ _ _)
   | (with_reducible exact LeO.refl _)
   | (with_reducible exact LeO.none _)
   | (with_reducible refine LeO.ite ?_ ?_)
   | (with_reducible refine LeO.bind ?_ (fun _ => ?_))
   | exact ih0 _ _ _ _
   | exact ih1 _ _ _ _ _ _ _
   | exact q6z.mono _ _ _
   | exact LeO.none _
   | refine LeO.ite ?_ ?_
   | refine LeO.bind ?_ (fun _ => ?_)
theorem q7z.mono : ∀ a0 k, LeO (q7z.f k a0) (q7z.f (k + 1) a0) := by
 intro a0 k
 obtain ⟨ih0, ih1⟩ := q7z.mono_l k
 unfold q7z.f
 repeat' first
   | (with_reducible exact ih0 _ _ _ _)
   | (with_reducible exact ih1 _ _ _ _ _ _ _)
   | (with_reducible exact q6z.mono _ _ _)
   | (with_reducible exact LeO.refl _)
   | (with_reducible exact LeO.none _)
   | (with_reducible refine LeO.ite ?_ ?_)
   | (with_reducible refine LeO.bind ?_ (fun _ => ?_))
   | exact ih0 _ _ _ _
   | exact ih1 _ _ _ _ _ _ _
   | exact q6z.mono _ _ _
   | exact LeO.none _
   | refine LeO.ite ?_ ?_
   | refine LeO.bind ?_ (fun _ => ?_)
set_option maxHeartbeats 8000000 in
set_option maxRecDepth 100000 in
theorem q7z.calls (k : Nat) (A0 : Option Addr) (c0 : Nat) (l0 : List (List (S33))) (r : List Int) (w : World) (hr0 : Kd.C (Kd.slice 33 k33) w A0 l0.length l0) (hc0 : l0.length ≤ c0) (h : q7z.f k l0 = some r) :
  Calls Try.prog 24 #[.slice A0 l0.length c0] w fun e w' => ∃ v0_ : Value, e = .returned (v0_) ∧ Kd.R (Kd.int .u32) 29 w' w.heap.size (fun _ => True) v0_ r ∧ Below w.heap.size w w' := by
 have hu33 := Try.underlying33
 have HR0 := Aside0.mk hr0
 have HC0 := Aside0.mk hc0
 clear hr0 hc0
 have HB := Aside0.mk (Below.refl w.heap.size w)
 have H : (q7z.l0 k (([0] : List Int)) l0 (l0.length : Int) 0) = some r := h
 clear h
 obtain ⟨y204, hy204⟩ : ∃ y_ : List Int, y_ = (([0] : List Int)) := ⟨_, rfl⟩
 replace H : (q7z.l0 k y204 l0 (l0.length : Int) 0) = some r := by first | (rw [hy204]; with_reducible exact H) | (have H2_ := (Option.bind_some _ _).symm.trans H; rw [hy204]; with_reducible exact H2_) | (have H2_ := (Option.bind_some _ _).symm.trans H; with_reducible exact H2_) | with_reducible exact H | (rw [hy204]; exact H) | exact H
 have Ny204 := Aside0.mk hy204
 clear hy204
 have H' := Aside0.mk H
 clear H
 go_enter Try.func24, Try.ntmps24
 go_wp2_with (first | ((with_reducible refine gate_dst (N := 8) rfl ?_); refine Kd.R_lit (Kd.int .u32) _ 29 ?hg (N := 8) ?hd (xs := ([0] : List Int)) (inner := [.int .u32 0]) (ok := fun _ => True) (okp := fun _ => True) ?hr ?hp (fun _ hk => hk) trivial (Below.refl _ _) (Nat.le_refl _) (by simp) ?_; (case hd => rfl); (case hg => rfl); (case hr => first | (go_simp; done) | (go_simp; rfl)); (case hp => exact (Reps.one (show Kd.M (Kd.int .u32) _ _ _ 0 [.int .u32 0] from rfl) (Reps.none _ _))); intro v205 w2 ho3 hb hg_ hnew_; clear hg_ hnew_; (first | rw [← Ny204.out] at ho3 | (simp only [Int.reduceToNat] at ho3; rw [← Ny204.out] at ho3)); have n0_ := Aside0.mk (Kd.R_lower ho3 (below_size (by repeat (first | (with_reducible first | exact HB.out | apply below_alloc | apply pw_below_drewN | apply below_drew1) | exact HB.out)))); have n1_ := Aside0.mk (below_step (by repeat (first | (with_reducible first | exact HB.out | apply below_alloc | apply pw_below_drewN | apply below_drew1) | exact HB.out)) hb); clear HB; have HO206 := n0_; have HB := n1_; clear n0_ n1_; clear hb ho3))
 go_loopg [3, 11] k (fun kq v3 v11 w' => ∃ (x3_1 : List Int) (x11_1 : Int), v11 = .int .i64 x11_1 ∧ Aside0 (q7z.l0 kq x3_1 l0 (l0.length : Int) x11_1 = some r) ∧ Aside0 (kq ≤ k) ∧ Aside0 (Kd.R (Kd.int .u32) 29 w' w.heap.size (fun _ => True) v3 x3_1) ∧ Aside0 (Below w.heap.size w w'))
 case atStart => exact ⟨(y204), (0), (by first | rfl | (simp; done) | (simp [*]; done)), H', ⟨Nat.le_refl _⟩, ⟨by (with_reducible repeat (first | apply Kd.R_alloc | apply Kd.R_drewN | apply Kd.R_drew)); exact HO206.out⟩, ⟨by repeat (first | (with_reducible first | exact HB.out | apply below_alloc | apply pw_below_drewN | apply below_drew1) | exact HB.out)⟩⟩
 case round =>
  clear H'
  try clear c2
  try clear p2
  obtain ⟨x3_1, x11_1, rfl, HA, HK1, HO_3, HB⟩ := hrel
  cases gk with
  | zero => exact absurd HA.out (by simp [q7z.l0])
  | succ k1 =>
   have H := HA.out
   clear HA
   simp only [q7z.l0] at H
   by_cases c4 : x11_1 < (l0.length : Int)
   ·
    rw [if_pos c4] at H
    have c4b0 : decide (x11_1 < (l0.length : Int)) = true := decide_eq_true c4
    clear c4
    by_cases c5 : 0 ≤ x11_1
    ·
     rw [if_pos c5] at H
     have c5b0 : decide (0 ≤ x11_1) = true := decide_eq_true c5
     clear c5
     by_cases c6 : x11_1 < (l0.length : Int)
     ·
      rw [if_pos c6] at H
      have c6b0 : decide (x11_1 < (l0.length : Int)) = true := decide_eq_true c6
      clear c6
      have H' := Aside0.mk H
      clear H
      have p207 : 0 ≤ (x11_1 : Int) := of_decide_eq_true (by first | (with_reducible assumption) | assumption)
      have q207 : x11_1 < (l0.length : Int) := of_decide_eq_true (by first | (with_reducible assumption) | assumption)
      obtain ⟨ad207, A207_0, c207_0, e207, hx207_0, hl207_0, hi207_0⟩ := at_L2 HR0.out x11_1 p207 q207
      cases e207
      replace hx207_0 := (HB.out.cell (World.block_lt_of_cell? w _ hx207_0)).trans hx207_0
      have HR207_0 := Aside0.mk hi207_0
      have HC207_0 := Aside0.mk hl207_0
      clear hi207_0 hl207_0
      replace p207 := eq_true p207
      replace q207 := eq_true q207
      go_wp2
      go_loopg [3, 17] k1 (fun kq v3 v17 w' => ∃ (x3_2 : List Int) (x17_2 : Int), v17 = .int .i64 x17_2 ∧ Aside0 (q7z.l1 kq x3_2 l0 (l0.length : Int) x11_1 (rd_L2 l0 x11_1) ((rd_L2 l0 x11_1).length : Int) x17_2 = some r) ∧ Aside0 (kq ≤ k1) ∧ Aside0 (Kd.R (Kd.int .u32) 29 w' w.heap.size (fun _ => True) v3 x3_2) ∧ Aside0 (Below w.heap.size w w'))
      case atStart => exact ⟨(x3_1), (0), (by first | rfl | (simp; done) | (simp [*]; done)), H', ⟨Nat.le_refl _⟩, ⟨by (with_reducible repeat (first | apply Kd.R_alloc | apply Kd.R_drewN | apply Kd.R_drew)); exact HO_3.out⟩, ⟨by repeat (first | (with_reducible first | exact HB.out | apply below_alloc | apply pw_below_drewN | apply below_drew1) | exact HB.out)⟩⟩
      case round =>
       clear H'
       try clear c2
       try clear p2
       try clear q2
       try clear hx2
       try clear c4
       try clear c4b0
       try clear c5
       try clear c5b0
       try clear c6
       try clear c6b0
       try clear hx207_0
       try clear p2
       try clear p207
       try clear q207
       obtain ⟨x3_2, x17_2, rfl, HA, HK2, HO_3, HB⟩ := hrel
       cases gk with
       | zero => exact absurd HA.out (by simp [q7z.l1])
       | succ k2 =>
        have H := HA.out
        clear HA
        simp only [q7z.l1] at H
        by_cases c7 : x17_2 < ((rd_L2 l0 x11_1).length : Int)
        ·
         rw [if_pos c7] at H
         have c7b0 : decide (x17_2 < ((rd_L2 l0 x11_1).length : Int)) = true := decide_eq_true c7
         clear c7
         by_cases c8 : 0 ≤ x17_2
         ·
          rw [if_pos c8] at H
          have c8b0 : decide (0 ≤ x17_2) = true := decide_eq_true c8
          clear c8
          by_cases c9 : x17_2 < ((rd_L2 l0 x11_1).length : Int)
          ·
           rw [if_pos c9] at H
           have c9b0 : decide (x17_2 < ((rd_L2 l0 x11_1).length : Int)) = true := decide_eq_true c9
           clear c9
           by_cases c10 : ((rd_T33 (rd_L2 l0 x11_1) x17_2).f0) > ((rd_T33 (rd_L2 l0 x11_1) x17_2).f1)
           ·
            rw [if_pos c10] at H
            have c10b0 : decide (((rd_T33 (rd_L2 l0 x11_1) x17_2).f1) < ((rd_T33 (rd_L2 l0 x11_1) x17_2).f0)) = true := decide_eq_true c10
            clear c10
            have H' := Aside0.mk H
            clear H
            have p208 : 0 ≤ (x17_2 : Int) := of_decide_eq_true (by first | (with_reducible assumption) | assumption)
            have q208 : x17_2 < ((rd_L2 l0 x11_1).length : Int) := of_decide_eq_true (by first | (with_reducible assumption) | assumption)
            obtain ⟨ad208, e208, hx208_0, hx208_1⟩ := at_T33 HR207_0.out x17_2 p208 q208
            cases e208
            replace hx208_0 := (HB.out.cell (World.block_lt_of_cell? w _ hx208_0)).trans hx208_0
            replace hx208_1 := (HB.out.cell (World.block_lt_of_cell? w _ hx208_1)).trans hx208_1
            replace p208 := eq_true p208
            replace q208 := eq_true q208
            go_wp2_with (first | ((with_reducible refine gate_dst (N := 7) rfl ?_); refine box_event ?hg (N := 7) ?hd (cs := #[.int .u32 0, .int .u32 0]) (t := 33) ?hr ?_; (case hd => rfl); (case hg => rfl); (case hr => first | (go_simp; done) | (go_simp; rfl)); intro gb209 hg w11 hbox hb; have n0_ := Aside0.mk (Kd.R_below (by (with_reducible repeat (first | apply Kd.R_alloc | apply Kd.R_drewN | apply Kd.R_drew)); exact HO_3.out) hb); have n1_ := Aside0.mk (below_step (by repeat (first | (with_reducible first | exact HB.out | apply below_alloc | apply pw_below_drewN | apply below_drew1) | exact HB.out)) hb); have n2_ := Aside0.mk (hbox); have n3_ := Aside0.mk ((by rw [hg]; exact (below_size (by repeat (first | (with_reducible first | exact HB.out | apply below_alloc | apply pw_below_drewN | apply below_drew1) | exact HB.out))) : w.heap.size ≤ gb209)); have n4_ := Aside0.mk ((by rw [hg]; exact (below_size (by repeat (first | (with_reducible first | exact HB.out | apply below_alloc | apply pw_below_drewN | apply below_drew1) | exact HB.out))) : w.heap.size ≤ gb209)); clear HO_3; clear HB; have HO_3 := n0_; have HB := n1_; have BK209 := n2_; have GW209 := n3_; have GE209 := n4_; clear n0_ n1_ n2_ n3_ n4_; clear hb hbox hg; have hcz12_0 : w11.cell? ⟨gb209, 0, none⟩ = some (.int .u32 0) := (blk_cell BK209.out 0).trans rfl; have hcz12_1 : w11.cell? ⟨gb209, 1, none⟩ = some (.int .u32 0) := (blk_cell BK209.out 1).trans rfl; have hfz12_0 := blk_frozen BK209.out 0; have hfz12_1 := blk_frozen BK209.out 1))
            go_roundg k2
            case measure => have := HK1.out; have := HK2.out; omega
            case rel => exact ⟨(x3_2), (wrap64 (x17_2 + 1)), (by first | rfl | (simp; done) | (simp [*]; done)), H', ⟨by have := HK1.out; have := HK2.out; omega⟩, ⟨by (with_reducible repeat (first | apply Kd.R_alloc | apply Kd.R_drewN | apply Kd.R_drew)); exact Kd.R_mono (Kd.R_far (p := ⟨gb209, 1, none⟩) (Kd.R_far (p := ⟨gb209, 0, none⟩) (Kd.R_types HO_3.out BK209.out (by decide)) (fun _ hk => hk.2) (.int .u32 ((rd_T33 (rd_L2 l0 x11_1) x17_2).f0))) (fun _ hk => hk.2) (.int .u32 ((rd_T33 (rd_L2 l0 x11_1) x17_2).f1))) (fun _ hk => trivial)⟩, ⟨by repeat (first | (with_reducible first | exact HB.out | apply below_alloc | apply pw_below_drewN | apply below_drew1 | refine below_set ?_ GE209.out) | exact HB.out)⟩⟩
           ·
            rw [if_neg c10] at H
            have c10b0 : decide (((rd_T33 (rd_L2 l0 x11_1) x17_2).f1) < ((rd_T33 (rd_L2 l0 x11_1) x17_2).f0)) = false := decide_eq_false c10
            clear c10
            replace H := Option.bind_eq_some_iff.mp H
            obtain ⟨t210, A130, H⟩ := H
            replace H : (if ((rd_T33 (rd_L2 l0 x11_1) x17_2).f1) < 4294967295 then ((q6z.f k2 t210 ((((rd_T33 (rd_L2 l0 x11_1) x17_2).f1) + 1) % 4294967296)).bind fun t213 => (q7z.l1 k2 t213 l0 (l0.length : Int) x11_1 (rd_L2 l0 x11_1) ((rd_L2 l0 x11_1).length : Int) (wrap64 (x17_2 + 1)))) else (q7z.l1 k2 t210 l0 (l0.length : Int) x11_1 (rd_L2 l0 x11_1) ((rd_L2 l0 x11_1).length : Int) (wrap64 (x17_2 + 1)))) = some r := H
            have A13 := Aside0.mk A130
            clear A130
            by_cases c14 : ((rd_T33 (rd_L2 l0 x11_1) x17_2).f1) < 4294967295
            ·
             rw [if_pos c14] at H
             have c14b0 : decide (((rd_T33 (rd_L2 l0 x11_1) x17_2).f1) < 4294967295) = true := decide_eq_true c14
             clear c14
             replace H := Option.bind_eq_some_iff.mp H
             obtain ⟨t213, A150, H⟩ := H
             replace H : (q7z.l1 k2 t213 l0 (l0.length : Int) x11_1 (rd_L2 l0 x11_1) ((rd_L2 l0 x11_1).length : Int) (wrap64 (x17_2 + 1))) = some r := H
             have A15 := Aside0.mk A150
             clear A150
             have H' := Aside0.mk H
             clear H
             have p208 : 0 ≤ (x17_2 : Int) := of_decide_eq_true (by first | (with_reducible assumption) | assumption)
             have q208 : x17_2 < ((rd_L2 l0 x11_1).length : Int) := of_decide_eq_true (by first | (with_reducible assumption) | assumption)
             obtain ⟨ad208, e208, hx208_0, hx208_1⟩ := at_T33 HR207_0.out x17_2 p208 q208
             cases e208
             replace hx208_0 := (HB.out.cell (World.block_lt_of_cell? w _ hx208_0)).trans hx208_0
             replace hx208_1 := (HB.out.cell (World.block_lt_of_cell? w _ hx208_1)).trans hx208_1
             replace p208 := eq_true p208
             replace q208 := eq_true q208
             go_wp2_with (first | ((with_reducible refine gate_dst (N := 7) rfl ?_); refine box_event ?hg (N := 7) ?hd (cs := #[.int .u32 0, .int .u32 0]) (t := 33) ?hr ?_; (case hd => rfl); (case hg => rfl); (case hr => first | (go_simp; done) | (go_simp; rfl)); intro gb209 hg w16 hbox hb; have n0_ := Aside0.mk (Kd.R_below (by (with_reducible repeat (first | apply Kd.R_alloc | apply Kd.R_drewN | apply Kd.R_drew)); exact HO_3.out) hb); have n1_ := Aside0.mk (below_step (by repeat (first | (with_reducible first | exact HB.out | apply below_alloc | apply pw_below_drewN | apply below_drew1) | exact HB.out)) hb); have n2_ := Aside0.mk (hbox); have n3_ := Aside0.mk ((by rw [hg]; exact (below_size (by repeat (first | (with_reducible first | exact HB.out | apply below_alloc | apply pw_below_drewN | apply below_drew1) | exact HB.out))) : w.heap.size ≤ gb209)); have n4_ := Aside0.mk ((by rw [hg]; exact (below_size (by repeat (first | (with_reducible first | exact HB.out | apply below_alloc | apply pw_below_drewN | apply below_drew1) | exact HB.out))) : w.heap.size ≤ gb209)); clear HO_3; clear HB; have HO_3 := n0_; have HB := n1_; have BK209 := n2_; have GW209 := n3_; have GE209 := n4_; clear n0_ n1_ n2_ n3_ n4_; clear hb hbox hg; have hcz17_0 : w16.cell? ⟨gb209, 0, none⟩ = some (.int .u32 0) := (blk_cell BK209.out 0).trans rfl; have hcz17_1 : w16.cell? ⟨gb209, 1, none⟩ = some (.int .u32 0) := (blk_cell BK209.out 1).trans rfl; have hfz17_0 := blk_frozen BK209.out 0; have hfz17_1 := blk_frozen BK209.out 1) | ((with_reducible refine gate_store (t := 33) (p := 7) rfl ?_); refine store_event (t := 33) (p := 7) (v := ?vo_w18) (w1 := ((w16.setCell ⟨gb209, 0, none⟩ (.int .u32 ((rd_T33 (rd_L2 l0 x11_1) x17_2).f0))).setCell ⟨gb209, 1, none⟩ (.int .u32 ((rd_T33 (rd_L2 l0 x11_1) x17_2).f1)))) ?hg ?ho ?hn ?hr ?_; (case ho => rfl); (case hg => rfl); (case hn => rfl); (case hr => first | (go_simp; done) | (go_simp; rfl)); intro w18 hw; have n0_ : Aside0 (Kd.R (Kd.int .u32) 29 w18 w.heap.size (fun _ => True) u3 x3_2) := ⟨(by rw [hw]; exact (by (with_reducible repeat (first | apply Kd.R_alloc | apply Kd.R_drewN | apply Kd.R_drew)); exact Kd.R_mono (Kd.R_far (p := ⟨gb209, 1, none⟩) (Kd.R_far (p := ⟨gb209, 0, none⟩) (Kd.R_types HO_3.out BK209.out (by decide)) (fun _ hk => hk.2) (.int .u32 ((rd_T33 (rd_L2 l0 x11_1) x17_2).f0))) (fun _ hk => hk.2) (.int .u32 ((rd_T33 (rd_L2 l0 x11_1) x17_2).f1))) (fun _ hk => trivial)))⟩; have n1_ : Aside0 (w18.heap[gb209]? = some (.cells #[.int .u32 ((rd_T33 (rd_L2 l0 x11_1) x17_2).f0), .int .u32 ((rd_T33 (rd_L2 l0 x11_1) x17_2).f1)] 33 (0, 0))) := ⟨(by rw [hw]; exact (by (with_reducible repeat (first | refine blk_drewN ?_ _ | refine blk_drew ?_ | refine blk_alloc ?_ _)); refine blk_put (cs := #[.int .u32 ((rd_T33 (rd_L2 l0 x11_1) x17_2).f0), .int .u32 0]) ?_ 1 _ rfl; (with_reducible repeat (first | refine blk_drewN ?_ _ | refine blk_drew ?_ | refine blk_alloc ?_ _)); refine blk_put (cs := #[.int .u32 0, .int .u32 0]) ?_ 0 _ rfl; (with_reducible repeat (first | refine blk_drewN ?_ _ | refine blk_drew ?_ | refine blk_alloc ?_ _)); exact BK209.out))⟩; have n2_ : Aside0 (Below w.heap.size w w18) := ⟨(by rw [hw]; exact (by repeat (first | (with_reducible first | exact HB.out | apply below_alloc | apply pw_below_drewN | apply below_drew1 | refine below_set ?_ GE209.out) | exact HB.out)))⟩; clear hw; clear HO_3; clear BK209; clear HB; have HO_3 := n0_; have BK209 := n1_; have HB := n2_; clear n0_ n1_ n2_; have hcz19_0 : w18.cell? ⟨gb209, 0, none⟩ = some (.int .u32 ((rd_T33 (rd_L2 l0 x11_1) x17_2).f0)) := (blk_cell BK209.out 0).trans rfl; have hcz19_1 : w18.cell? ⟨gb209, 1, none⟩ = some (.int .u32 ((rd_T33 (rd_L2 l0 x11_1) x17_2).f1)) := (blk_cell BK209.out 1).trans rfl; have hfz19_0 := blk_frozen BK209.out 0; have hfz19_1 := blk_frozen BK209.out 1; obtain ⟨Ao20, co20, eo20⟩ := Kd.R_slice HO_3.out; subst eo20) | ((with_reducible refine gate_callee (f := 35) rfl ?_); refine goesL_ (some 29) rfl rfl Try.func35 (by kernel_rfl) rfl #[.slice Ao20 x3_2.length co20, .int .u32 ((rd_T33 (rd_L2 l0 x11_1) x17_2).f0)] rfl (by (try simp only [List.map_toArray, List.map_cons, List.map_nil]); first | done | rfl | (simp only [List.length_drop, List.length_take]; rfl)) ?_; (with_reducible refine (q6z.calls k2 (fun k_ => some k_ = (.slice Ao20 x3_2.length co20 : Value).ownBlock) (.slice Ao20 x3_2.length co20) x3_2 ((rd_T33 (rd_L2 l0 x11_1) x17_2).f0) t210 w _ ?side1 ?side2 A13.out).mono ?_); (case side1 => repeat (first | (with_reducible first | exact HB.out | apply below_alloc | apply pw_below_drewN | apply below_drew1 | refine below_set ?_ GE209.out) | exact HB.out)); (case side2 => exact Kd.R_tight rfl HO_3.out); rintro e w21 ⟨v211, rfl, ho0, hb, hkp⟩; refine ⟨_, rfl, ?_⟩; have n0_ := Aside0.mk (blk_kept (by (with_reducible repeat (first | refine blk_drewN ?_ _ | refine blk_drew ?_ | refine blk_alloc ?_ _)); exact BK209.out) hkp (fun hs_ => (fun e_ => (Kd.R_ne HO_3.out BK209.out (by decide)) e_) hs_)); have n1_ := Aside0.mk (Kd.R_mono (ok' := fun k_ => True) ho0 (fun k_ hk_ => trivial)); have n2_ := Aside0.mk (hb); clear BK209; clear HB; clear HO_3; have BK209 := n0_; have HO212 := n1_; have HB := n2_; clear n0_ n1_ n2_; (try clear hb); (try clear hkp); (try clear ho0); have hcz22_0 : w21.cell? ⟨gb209, 0, none⟩ = some (.int .u32 ((rd_T33 (rd_L2 l0 x11_1) x17_2).f0)) := (blk_cell BK209.out 0).trans rfl; have hcz22_1 : w21.cell? ⟨gb209, 1, none⟩ = some (.int .u32 ((rd_T33 (rd_L2 l0 x11_1) x17_2).f1)) := (blk_cell BK209.out 1).trans rfl; have hfz22_0 := blk_frozen BK209.out 0; have hfz22_1 := blk_frozen BK209.out 1; obtain ⟨Ao23, co23, eo23⟩ := Kd.R_slice HO212.out; subst eo23) | ((with_reducible refine gate_callee (f := 35) rfl ?_); refine goesL_ (some 37) rfl rfl Try.func35 (by kernel_rfl) rfl #[.slice Ao23 t210.length co23, .int .u32 ((((rd_T33 (rd_L2 l0 x11_1) x17_2).f1) + 1) % 4294967296)] rfl (by (try simp only [List.map_toArray, List.map_cons, List.map_nil]); first | done | rfl | (simp only [List.length_drop, List.length_take]; rfl)) ?_; (with_reducible refine (q6z.calls k2 (fun k_ => some k_ = (.slice Ao23 t210.length co23 : Value).ownBlock) (.slice Ao23 t210.length co23) t210 ((((rd_T33 (rd_L2 l0 x11_1) x17_2).f1) + 1) % 4294967296) t213 w _ ?side1 ?side2 A15.out).mono ?_); (case side1 => repeat (first | (with_reducible first | exact HB.out | apply below_alloc | apply pw_below_drewN | apply below_drew1 | refine below_set ?_ GE209.out) | exact HB.out)); (case side2 => exact Kd.R_tight rfl HO212.out); rintro e w24 ⟨v214, rfl, ho0, hb, hkp⟩; refine ⟨_, rfl, ?_⟩; have n0_ := Aside0.mk (blk_kept (by (with_reducible repeat (first | refine blk_drewN ?_ _ | refine blk_drew ?_ | refine blk_alloc ?_ _)); exact BK209.out) hkp (fun hs_ => (fun e_ => (Kd.R_ne HO212.out BK209.out (by decide)) e_) hs_)); have n1_ := Aside0.mk (Kd.R_mono (ok' := fun k_ => True) ho0 (fun k_ hk_ => trivial)); have n2_ := Aside0.mk (hb); clear BK209; clear HB; clear HO212; have BK209 := n0_; have HO215 := n1_; have HB := n2_; clear n0_ n1_ n2_; (try clear hb); (try clear hkp); (try clear ho0)))
             go_roundg k2
             case measure => have := HK1.out; have := HK2.out; omega
             case rel => exact ⟨(t213), (wrap64 (x17_2 + 1)), (by first | rfl | (simp; done) | (simp [*]; done)), H', ⟨by have := HK1.out; have := HK2.out; omega⟩, ⟨by (with_reducible repeat (first | apply Kd.R_alloc | apply Kd.R_drewN | apply Kd.R_drew)); exact HO215.out⟩, ⟨by repeat (first | (with_reducible first | exact HB.out | apply below_alloc | apply pw_below_drewN | apply below_drew1 | refine below_set ?_ GE209.out) | exact HB.out)⟩⟩
            ·
             rw [if_neg c14] at H
             have c14b0 : decide (((rd_T33 (rd_L2 l0 x11_1) x17_2).f1) < 4294967295) = false := decide_eq_false c14
             clear c14
             have H' := Aside0.mk H
             clear H
             have p208 : 0 ≤ (x17_2 : Int) := of_decide_eq_true (by first | (with_reducible assumption) | assumption)
             have q208 : x17_2 < ((rd_L2 l0 x11_1).length : Int) := of_decide_eq_true (by first | (with_reducible assumption) | assumption)
             obtain ⟨ad208, e208, hx208_0, hx208_1⟩ := at_T33 HR207_0.out x17_2 p208 q208
             cases e208
             replace hx208_0 := (HB.out.cell (World.block_lt_of_cell? w _ hx208_0)).trans hx208_0
             replace hx208_1 := (HB.out.cell (World.block_lt_of_cell? w _ hx208_1)).trans hx208_1
             replace p208 := eq_true p208
             replace q208 := eq_true q208
             go_wp2_with (first | ((with_reducible refine gate_dst (N := 7) rfl ?_); refine box_event ?hg (N := 7) ?hd (cs := #[.int .u32 0, .int .u32 0]) (t := 33) ?hr ?_; (case hd => rfl); (case hg => rfl); (case hr => first | (go_simp; done) | (go_simp; rfl)); intro gb209 hg w25 hbox hb; have n0_ := Aside0.mk (Kd.R_below (by (with_reducible repeat (first | apply Kd.R_alloc | apply Kd.R_drewN | apply Kd.R_drew)); exact HO_3.out) hb); have n1_ := Aside0.mk (below_step (by repeat (first | (with_reducible first | exact HB.out | apply below_alloc | apply pw_below_drewN | apply below_drew1) | exact HB.out)) hb); have n2_ := Aside0.mk (hbox); have n3_ := Aside0.mk ((by rw [hg]; exact (below_size (by repeat (first | (with_reducible first | exact HB.out | apply below_alloc | apply pw_below_drewN | apply below_drew1) | exact HB.out))) : w.heap.size ≤ gb209)); have n4_ := Aside0.mk ((by rw [hg]; exact (below_size (by repeat (first | (with_reducible first | exact HB.out | apply below_alloc | apply pw_below_drewN | apply below_drew1) | exact HB.out))) : w.heap.size ≤ gb209)); clear HO_3; clear HB; have HO_3 := n0_; have HB := n1_; have BK209 := n2_; have GW209 := n3_; have GE209 := n4_; clear n0_ n1_ n2_ n3_ n4_; clear hb hbox hg; have hcz26_0 : w25.cell? ⟨gb209, 0, none⟩ = some (.int .u32 0) := (blk_cell BK209.out 0).trans rfl; have hcz26_1 : w25.cell? ⟨gb209, 1, none⟩ = some (.int .u32 0) := (blk_cell BK209.out 1).trans rfl; have hfz26_0 := blk_frozen BK209.out 0; have hfz26_1 := blk_frozen BK209.out 1) | ((with_reducible refine gate_store (t := 33) (p := 7) rfl ?_); refine store_event (t := 33) (p := 7) (v := ?vo_w27) (w1 := ((w25.setCell ⟨gb209, 0, none⟩ (.int .u32 ((rd_T33 (rd_L2 l0 x11_1) x17_2).f0))).setCell ⟨gb209, 1, none⟩ (.int .u32 ((rd_T33 (rd_L2 l0 x11_1) x17_2).f1)))) ?hg ?ho ?hn ?hr ?_; (case ho => rfl); (case hg => rfl); (case hn => rfl); (case hr => first | (go_simp; done) | (go_simp; rfl)); intro w27 hw; have n0_ : Aside0 (Kd.R (Kd.int .u32) 29 w27 w.heap.size (fun _ => True) u3 x3_2) := ⟨(by rw [hw]; exact (by (with_reducible repeat (first | apply Kd.R_alloc | apply Kd.R_drewN | apply Kd.R_drew)); exact Kd.R_mono (Kd.R_far (p := ⟨gb209, 1, none⟩) (Kd.R_far (p := ⟨gb209, 0, none⟩) (Kd.R_types HO_3.out BK209.out (by decide)) (fun _ hk => hk.2) (.int .u32 ((rd_T33 (rd_L2 l0 x11_1) x17_2).f0))) (fun _ hk => hk.2) (.int .u32 ((rd_T33 (rd_L2 l0 x11_1) x17_2).f1))) (fun _ hk => trivial)))⟩; have n1_ : Aside0 (w27.heap[gb209]? = some (.cells #[.int .u32 ((rd_T33 (rd_L2 l0 x11_1) x17_2).f0), .int .u32 ((rd_T33 (rd_L2 l0 x11_1) x17_2).f1)] 33 (0, 0))) := ⟨(by rw [hw]; exact (by (with_reducible repeat (first | refine blk_drewN ?_ _ | refine blk_drew ?_ | refine blk_alloc ?_ _)); refine blk_put (cs := #[.int .u32 ((rd_T33 (rd_L2 l0 x11_1) x17_2).f0), .int .u32 0]) ?_ 1 _ rfl; (with_reducible repeat (first | refine blk_drewN ?_ _ | refine blk_drew ?_ | refine blk_alloc ?_ _)); refine blk_put (cs := #[.int .u32 0, .int .u32 0]) ?_ 0 _ rfl; (with_reducible repeat (first | refine blk_drewN ?_ _ | refine blk_drew ?_ | refine blk_alloc ?_ _)); exact BK209.out))⟩; have n2_ : Aside0 (Below w.heap.size w w27) := ⟨(by rw [hw]; exact (by repeat (first | (with_reducible first | exact HB.out | apply below_alloc | apply pw_below_drewN | apply below_drew1 | refine below_set ?_ GE209.out) | exact HB.out)))⟩; clear hw; clear HO_3; clear BK209; clear HB; have HO_3 := n0_; have BK209 := n1_; have HB := n2_; clear n0_ n1_ n2_; have hcz28_0 : w27.cell? ⟨gb209, 0, none⟩ = some (.int .u32 ((rd_T33 (rd_L2 l0 x11_1) x17_2).f0)) := (blk_cell BK209.out 0).trans rfl; have hcz28_1 : w27.cell? ⟨gb209, 1, none⟩ = some (.int .u32 ((rd_T33 (rd_L2 l0 x11_1) x17_2).f1)) := (blk_cell BK209.out 1).trans rfl; have hfz28_0 := blk_frozen BK209.out 0; have hfz28_1 := blk_frozen BK209.out 1; obtain ⟨Ao29, co29, eo29⟩ := Kd.R_slice HO_3.out; subst eo29) | ((with_reducible refine gate_callee (f := 35) rfl ?_); refine goesL_ (some 29) rfl rfl Try.func35 (by kernel_rfl) rfl #[.slice Ao29 x3_2.length co29, .int .u32 ((rd_T33 (rd_L2 l0 x11_1) x17_2).f0)] rfl (by (try simp only [List.map_toArray, List.map_cons, List.map_nil]); first | done | rfl | (simp only [List.length_drop, List.length_take]; rfl)) ?_; (with_reducible refine (q6z.calls k2 (fun k_ => some k_ = (.slice Ao29 x3_2.length co29 : Value).ownBlock) (.slice Ao29 x3_2.length co29) x3_2 ((rd_T33 (rd_L2 l0 x11_1) x17_2).f0) t210 w _ ?side1 ?side2 A13.out).mono ?_); (case side1 => repeat (first | (with_reducible first | exact HB.out | apply below_alloc | apply pw_below_drewN | apply below_drew1 | refine below_set ?_ GE209.out) | exact HB.out)); (case side2 => exact Kd.R_tight rfl HO_3.out); rintro e w30 ⟨v211, rfl, ho0, hb, hkp⟩; refine ⟨_, rfl, ?_⟩; have n0_ := Aside0.mk (blk_kept (by (with_reducible repeat (first | refine blk_drewN ?_ _ | refine blk_drew ?_ | refine blk_alloc ?_ _)); exact BK209.out) hkp (fun hs_ => (fun e_ => (Kd.R_ne HO_3.out BK209.out (by decide)) e_) hs_)); have n1_ := Aside0.mk (Kd.R_mono (ok' := fun k_ => True) ho0 (fun k_ hk_ => trivial)); have n2_ := Aside0.mk (hb); clear BK209; clear HB; clear HO_3; have BK209 := n0_; have HO212 := n1_; have HB := n2_; clear n0_ n1_ n2_; (try clear hb); (try clear hkp); (try clear ho0); have hcz31_0 : w30.cell? ⟨gb209, 0, none⟩ = some (.int .u32 ((rd_T33 (rd_L2 l0 x11_1) x17_2).f0)) := (blk_cell BK209.out 0).trans rfl; have hcz31_1 : w30.cell? ⟨gb209, 1, none⟩ = some (.int .u32 ((rd_T33 (rd_L2 l0 x11_1) x17_2).f1)) := (blk_cell BK209.out 1).trans rfl; have hfz31_0 := blk_frozen BK209.out 0; have hfz31_1 := blk_frozen BK209.out 1))
             go_roundg k2
             case measure => have := HK1.out; have := HK2.out; omega
             case rel => exact ⟨(t210), (wrap64 (x17_2 + 1)), (by first | rfl | (simp; done) | (simp [*]; done)), H', ⟨by have := HK1.out; have := HK2.out; omega⟩, ⟨by (with_reducible repeat (first | apply Kd.R_alloc | apply Kd.R_drewN | apply Kd.R_drew)); exact HO212.out⟩, ⟨by repeat (first | (with_reducible first | exact HB.out | apply below_alloc | apply pw_below_drewN | apply below_drew1 | refine below_set ?_ GE209.out) | exact HB.out)⟩⟩
          ·
           rw [if_neg c9] at H
           exact absurd H (by simp)
         ·
          rw [if_neg c8] at H
          exact absurd H (by simp)
        ·
         rw [if_neg c7] at H
         have c7b0 : decide (x17_2 < ((rd_L2 l0 x11_1).length : Int)) = false := decide_eq_false c7
         clear c7
         have H' := Aside0.mk H
         clear H
         go_wp2
         go_roundg k2
         case measure => have := HK1.out; have := HK2.out; omega
         case rel => exact ⟨(x3_2), (wrap64 (x11_1 + 1)), (by first | rfl | (simp; done) | (simp [*]; done)), H', ⟨by have := HK1.out; have := HK2.out; omega⟩, ⟨by (with_reducible repeat (first | apply Kd.R_alloc | apply Kd.R_drewN | apply Kd.R_drew)); exact HO_3.out⟩, ⟨by repeat (first | (with_reducible first | exact HB.out | apply below_alloc | apply pw_below_drewN | apply below_drew1) | exact HB.out)⟩⟩
     ·
      rw [if_neg c6] at H
      exact absurd H (by simp)
    ·
     rw [if_neg c5] at H
     exact absurd H (by simp)
   ·
    rw [if_neg c4] at H
    have c4b0 : decide (x11_1 < (l0.length : Int)) = false := decide_eq_false c4
    clear c4
    obtain rfl := Option.some.inj H
    go_wp2
    go_ret
    exact ⟨_, by first | rfl | (simp [errW_none, errW_some] <;> rfl) | (simp [*, errW_none, errW_some] <;> rfl), by (with_reducible repeat (first | apply Kd.R_alloc | apply Kd.R_drewN | apply Kd.R_drew)); exact HO_3.out, by repeat (first | (with_reducible first | exact HB.out | apply below_alloc | apply pw_below_drewN | apply below_drew1) | exact HB.out)⟩

end Go.Proofs.Ytconaifcjnpabaa.P

namespace Go.Proofs.Ytconaifcjnpabaa.P
open Go.RowKit Go.Proofs.YtconaifcjnpabaaW.PrintWords Go.Proofs.YtconaifcjnpabaaW.PrintLast Go.Proofs.YtconaifcjnpabaaW.PrintMore
attribute [local go_sem] max2_int min2_int max_two min_two max_three min_three max_four min_four
set_option linter.unusedVariables false
set_option linter.unusedSimpArgs false

/-! ### dragomanref01_end: function 25 -/
def q8z.f (l0 : List Int) (a1 : Int) : Option (Int) := if a1 = (wrap64 ((l0.length : Int) - 1)) then (some 4294967295) else (if 0 ≤ (wrap64 (a1 + 1)) then (if (wrap64 (a1 + 1)) < (l0.length : Int) then (some (((rd l0 (wrap64 (a1 + 1))) - 1) % 4294967296)) else (none)) else (none))
set_option maxHeartbeats 8000000 in
set_option maxRecDepth 100000 in
theorem q8z.calls (A0 : Option Addr) (c0 : Nat) (l0 : List Int) (a1 : Int) (r : Int) (w : World) (hr0 : Kd.C (Kd.int .u32) w A0 l0.length l0) (hc0 : l0.length ≤ c0) (h : q8z.f l0 a1 = some r) :
  Calls Try.prog 25 #[.slice A0 l0.length c0, .int .i64 a1] w fun e w' => e = .returned (.int .u32 r) ∧ Drawn0 w w' := by
 have HR0 := Aside0.mk hr0
 have HC0 := Aside0.mk hc0
 clear hr0 hc0
 have H : (if a1 = (wrap64 ((l0.length : Int) - 1)) then (some 4294967295) else (if 0 ≤ (wrap64 (a1 + 1)) then (if (wrap64 (a1 + 1)) < (l0.length : Int) then (some (((rd l0 (wrap64 (a1 + 1))) - 1) % 4294967296)) else (none)) else (none))) = some r := h
 clear h
 by_cases c3 : a1 = (wrap64 ((l0.length : Int) - 1))
 ·
  rw [if_pos c3] at H
  have c3b0 : (a1 == (wrap64 ((l0.length : Int) - 1))) = true := beq_iff_eq.mpr c3
  have c3b1 : (a1 != (wrap64 ((l0.length : Int) - 1))) = false := bne_eq_false_iff_eq.mpr c3
  clear c3
  obtain rfl := Option.some.inj H
  go_enter Try.func25, Try.ntmps25
  go_wp2
  go_ret
  exact ⟨by first | rfl | (simp; done) | (simp [*]; done), by repeat (first | exact Drawn0.refl _ | apply Drawn0.step)⟩
 ·
  rw [if_neg c3] at H
  have c3b0 : (a1 == (wrap64 ((l0.length : Int) - 1))) = false := beq_eq_false_iff_ne.mpr c3
  have c3b1 : (a1 != (wrap64 ((l0.length : Int) - 1))) = true := bne_iff_ne.mpr c3
  obtain ⟨ji4, hji4⟩ : ∃ j_ : Int, (wrap64 (a1 + 1)) = j_ := ⟨_, rfl⟩
  replace H : (if 0 ≤ (ji4) then (if (ji4) < (l0.length : Int) then (some (((rd l0 (ji4)) - 1) % 4294967296)) else (none)) else (none)) = some r := by first | (rw [hji4] at H; exact H) | (simp only [hji4] at H ⊢; exact H)
  have hji4w : (IntKind.i64.wrap (a1 + 1)) = ji4 := (i64_w _).trans hji4
  by_cases c5 : 0 ≤ (ji4)
  ·
   rw [if_pos c5] at H
   have c5b0 : decide (0 ≤ (ji4)) = true := decide_eq_true c5
   clear c5
   by_cases c6 : (ji4) < (l0.length : Int)
   ·
    rw [if_pos c6] at H
    have c6b0 : decide ((ji4) < (l0.length : Int)) = true := decide_eq_true c6
    clear c6
    obtain rfl := Option.some.inj H
    have p216 : 0 ≤ ((ji4) : Int) := of_decide_eq_true (by first | (with_reducible assumption) | assumption)
    have q216 : (ji4) < (l0.length : Int) := of_decide_eq_true (by first | (with_reducible assumption) | assumption)
    obtain ⟨ad216, e216, hx216_0⟩ := Kd.at_int HR0.out (ji4) p216 q216
    cases e216
    replace p216 := eq_true p216
    replace q216 := eq_true q216
    go_enter Try.func25, Try.ntmps25
    go_wp2
    go_ret
    exact ⟨by first | rfl | (simp; done) | (simp only [← hji4] <;> (first | rfl | simp)) | (simp [*]; done), by repeat (first | exact Drawn0.refl _ | apply Drawn0.step)⟩
   ·
    rw [if_neg c6] at H
    exact absurd H (by simp)
  ·
   rw [if_neg c5] at H
   exact absurd H (by simp)

end Go.Proofs.Ytconaifcjnpabaa.P

namespace Go.Proofs.Ytconaifcjnpabaa.P
open Go.RowKit Go.Proofs.YtconaifcjnpabaaW.PrintWords Go.Proofs.YtconaifcjnpabaaW.PrintLast Go.Proofs.YtconaifcjnpabaaW.PrintMore
attribute [local go_sem] max2_int min2_int max_two min_two max_three min_three max_four min_four
set_option linter.unusedVariables false
set_option linter.unusedSimpArgs false

/-! ### dragomanref01_from: function 32 -/
mutual
def q9z.l0 : Nat → List Int → List Bool → List (S33) → List Int → Int → Int → Option ((List (S33)))
 | 0, _, _, _, _, _, _ => none
 | k + 1, x0, x1, x5, x8, x9, x10 => if x10 < x9 then (if 0 ≤ x10 then (if x10 < (x8.length : Int) then (if x10 < (x1.length : Int) then (if rdOf false x1 x10 = true then (if x10 > 0 then (if 0 ≤ (wrap64 (x10 - 1)) then (if (wrap64 (x10 - 1)) < (x1.length : Int) then (q9z.j1 k x0 x1 x5 x10 (rd x8 x10) x8 x9 x10 (rdOf false x1 (wrap64 (x10 - 1)))) else (none)) else (none)) else (q9z.j1 k x0 x1 x5 x10 (rd x8 x10) x8 x9 x10 false)) else (q9z.l0 k x0 x1 x5 x8 x9 (wrap64 (x10 + 1)))) else (none)) else (none)) else (none)) else (some x5)
def q9z.j1 : Nat → List Int → List Bool → List (S33) → Int → Int → List Int → Int → Int → Bool → Option ((List (S33)))
 | 0, _, _, _, _, _, _, _, _, _ => none
 | k + 1, x0, x1, x5, x6, x7, x8, x9, x10, x28 => if x28 = true then ((q8z.f x0 x6).bind fun t250 => (if 0 ≤ (wrap64 ((x5.length : Int) - 1)) then (if (wrap64 ((x5.length : Int) - 1)) < (x5.length : Int) then (q9z.l0 k x0 x1 (x5.set ((wrap64 ((x5.length : Int) - 1)) : Int).toNat (⟨(rd_T33 x5 (wrap64 ((x5.length : Int) - 1))).f0, t250⟩ : S33)) x8 x9 (wrap64 (x10 + 1))) else (none)) else (none))) else ((q8z.f x0 x6).bind fun t252 => (if x5.length < 17592186044416 then (q9z.l0 k x0 x1 (x5 ++ [(⟨x7, t252⟩ : S33)]) x8 x9 (wrap64 (x10 + 1))) else (none)))
end
def q9z.f (k : Nat) (l0 : List Int) (l1 : List Bool) : Option ((List (S33))) := q9z.l0 k l0 l1 ([] : List (S33)) l0 (l0.length : Int) 0
theorem q9z.mono_l : ∀ k, (∀ y0 y1 y2 y3 y4 y5, LeO (q9z.l0 k y0 y1 y2 y3 y4 y5) (q9z.l0 (k + 1) y0 y1 y2 y3 y4 y5)) ∧ (∀ y0 y1 y2 y3 y4 y5 y6 y7 y8, LeO (q9z.j1 k y0 y1 y2 y3 y4 y5 y6 y7 y8) (q9z.j1 (k + 1) y0 y1 y2 y3 y4 y5 y6 y7 y8))
 | 0 => ⟨fun _ _ _ _ _ _ r h => by simp [q9z.l0] at h, fun _ _ _ _ _ _ _ _ _ r h => by simp [q9z.j1] at h⟩
 | k + 1 => by
  obtain ⟨ih0, ih1⟩ := q9z.mono_l k
  refine ⟨?_, ?_⟩
  ·
   intro y0 y1 y2 y3 y4 y5
   unfold q9z.l0
   repeat' first
   | (with_reducible exact ih0 _ _ _ _ _ _)
   | (with_reducible exact ih1 _ _ _ _ _ _ _ _ _)
   | (with_reducible exact LeO.refl _)
   | (with_reducible exact LeO.none _)
   | (with_reducible refine LeO.ite ?_ ?_)
   | (with_reducible refine LeO.bind ?_ (fun _ => ?_))
   | exact ih0 _ _ _ _ _ _
   | exact ih1 _ _ _ _ _ _ _ _ _
   | exact LeO.none _
   | refine LeO.ite ?_ ?_
   | refine LeO.bind ?_ (fun _ => ?_)
  ·
   intro y0 y1 y2 y3 y4 y5 y6 y7 y8
   unfold q9z.j1
   repeat' first
   | (with_reducible exact ih0 _ _ _ _ _ _)
   | (with_reducible exact ih1 _ _ _ _ _ _ _ _ _)
   | (with_reducible exact LeO.refl _)
   | (with_reducible exact LeO.none _)
   | (with_reducible refine LeO.ite ?_ ?_)
   | (with_reducible refine LeO.bind ?_ (fun _ => ?_))
   | exact ih0 _ _ _ _ _ _
   | exact ih1 _ _ _ _ _ _ _ _ _
   | exact LeO.none _
   | refine LeO.ite ?_ ?_
   | refine LeO.bind ?_ (fun _ => ?_)
theorem q9z.mono : ∀ a0 a1 k, LeO (q9z.f k a0 a1) (q9z.f (k + 1) a0 a1) := by
 intro a0 a1 k
 obtain ⟨ih0, ih1⟩ := q9z.mono_l k
 unfold q9z.f
 repeat' first
   | (with_reducible exact ih0 _ _ _ _ _ _)
   | (with_reducible exact ih1 _ _ _ _ _ _ _ _ _)
   | (with_reducible exact LeO.refl _)
   | (with_reducible exact LeO.none _)
   | (with_reducible refine LeO.ite ?_ ?_)
   | (with_reducible refine LeO.bind ?_ (fun _ => ?_))
   | exact ih0 _ _ _ _ _ _
   | exact ih1 _ _ _ _ _ _ _ _ _
   | exact LeO.none _
   | refine LeO.ite ?_ ?_
   | refine LeO.bind ?_ (fun _ => ?_)
set_option maxHeartbeats 8000000 in
set_option maxRecDepth 100000 in
theorem q9z.calls (k : Nat) (A0 : Option Addr) (c0 : Nat) (l0 : List Int) (A1 : Option Addr) (c1 : Nat) (l1 : List Bool) (r : List (S33)) (w : World) (hr0 : Kd.C (Kd.int .u32) w A0 l0.length l0) (hc0 : l0.length ≤ c0) (hr1 : Kd.C Kd.bool w A1 l1.length l1) (hc1 : l1.length ≤ c1) (h : q9z.f k l0 l1 = some r) :
  Calls Try.prog 32 #[.slice A0 l0.length c0, .slice A1 l1.length c1] w fun e w' => ∃ v0_ : Value, e = .returned (v0_) ∧ Kd.R k33 33 w' w.heap.size (fun _ => True) v0_ r ∧ Below w.heap.size w w' := by
 have hu33 := Try.underlying33
 have HR0 := Aside0.mk hr0
 have HC0 := Aside0.mk hc0
 clear hr0 hc0
 have HR1 := Aside0.mk hr1
 have HC1 := Aside0.mk hc1
 clear hr1 hc1
 have HB := Aside0.mk (Below.refl w.heap.size w)
 have H : (q9z.l0 k l0 l1 ([] : List (S33)) l0 (l0.length : Int) 0) = some r := h
 clear h
 have H' := Aside0.mk H
 clear H
 go_enter Try.func32, Try.ntmps32
 go_wp2
 go_loopg [5, 10] k (fun kq v5 v10 w' => ∃ (x5_1 : List (S33)) (x10_1 : Int), v10 = .int .i64 x10_1 ∧ Aside0 (q9z.l0 kq l0 l1 x5_1 l0 (l0.length : Int) x10_1 = some r) ∧ Aside0 (kq ≤ k) ∧ Aside0 (Kd.R k33 33 w' w.heap.size (fun _ => True) v5 x5_1) ∧ Aside0 (Below w.heap.size w w'))
 case atStart => exact ⟨(([] : List (S33))), (0), (by first | rfl | (simp; done) | (simp [*]; done)), H', ⟨Nat.le_refl _⟩, ⟨by first | exact Kd.R_nil _ _ _ _ _ | exact Kd.N_nil _ _ _ _ _ | exact Kd.V_nil _ _ _ _ _ | exact Kd.Q_nil _ _ _ _ _ | exact Kd.S_nil _ _ _ _ _⟩, ⟨by repeat (first | (with_reducible first | exact HB.out | apply below_alloc | apply pw_below_drewN | apply below_drew1) | exact HB.out)⟩⟩
 case round =>
  clear H'
  try clear c1
  try clear p2
  obtain ⟨x5_1, x10_1, rfl, HA, HK1, HO_5, HB⟩ := hrel
  cases gk with
  | zero => exact absurd HA.out (by simp [q9z.l0])
  | succ k1 =>
   have H := HA.out
   clear HA
   simp only [q9z.l0] at H
   by_cases c3 : x10_1 < (l0.length : Int)
   ·
    rw [if_pos c3] at H
    have c3b0 : decide (x10_1 < (l0.length : Int)) = true := decide_eq_true c3
    clear c3
    by_cases c4 : 0 ≤ x10_1
    ·
     rw [if_pos c4] at H
     have c4b0 : decide (0 ≤ x10_1) = true := decide_eq_true c4
     clear c4
     by_cases c5 : x10_1 < (l0.length : Int)
     ·
      rw [if_pos c5] at H
      have c5b0 : decide (x10_1 < (l0.length : Int)) = true := decide_eq_true c5
      clear c5
      by_cases c6 : x10_1 < (l1.length : Int)
      ·
       rw [if_pos c6] at H
       have c6b0 : decide (x10_1 < (l1.length : Int)) = true := decide_eq_true c6
       clear c6
       obtain ⟨bq7, hbq7⟩ : ∃ b_ : Bool, b_ = (rdOf false l1 x10_1) := ⟨_, rfl⟩
       replace H : (if bq7 = true then (if x10_1 > 0 then (if 0 ≤ (wrap64 (x10_1 - 1)) then (if (wrap64 (x10_1 - 1)) < (l1.length : Int) then (q9z.j1 k1 l0 l1 x5_1 x10_1 (rd l0 x10_1) l0 (l0.length : Int) x10_1 (rdOf false l1 (wrap64 (x10_1 - 1)))) else (none)) else (none)) else (q9z.j1 k1 l0 l1 x5_1 x10_1 (rd l0 x10_1) l0 (l0.length : Int) x10_1 false)) else (q9z.l0 k1 l0 l1 x5_1 l0 (l0.length : Int) (wrap64 (x10_1 + 1)))) = some r := by rw [← hbq7] at H; exact H
       have Nbq7 := Aside0.mk hbq7
       clear hbq7
       by_cases c8 : bq7 = true
       ·
        subst c8
        have H1 : (if x10_1 > 0 then (if 0 ≤ (wrap64 (x10_1 - 1)) then (if (wrap64 (x10_1 - 1)) < (l1.length : Int) then (q9z.j1 k1 l0 l1 x5_1 x10_1 (rd l0 x10_1) l0 (l0.length : Int) x10_1 (rdOf false l1 (wrap64 (x10_1 - 1)))) else (none)) else (none)) else (q9z.j1 k1 l0 l1 x5_1 x10_1 (rd l0 x10_1) l0 (l0.length : Int) x10_1 false)) = some r := by rw [if_pos rfl] at H; exact H
        clear H
        have H := H1
        clear H1
        have HC9 := Aside0.mk H
        clear H
        have p247 : 0 ≤ (x10_1 : Int) := of_decide_eq_true (by first | (with_reducible assumption) | assumption)
        have q247 : x10_1 < (l0.length : Int) := of_decide_eq_true (by first | (with_reducible assumption) | assumption)
        obtain ⟨ad247, e247, hx247_0⟩ := Kd.at_int HR0.out x10_1 p247 q247
        cases e247
        replace hx247_0 := (HB.out.cell (World.block_lt_of_cell? w _ hx247_0)).trans hx247_0
        replace p247 := eq_true p247
        replace q247 := eq_true q247
        have p248 : 0 ≤ (x10_1 : Int) := of_decide_eq_true (by first | (with_reducible assumption) | assumption)
        have q248 : x10_1 < (l1.length : Int) := of_decide_eq_true (by first | (with_reducible assumption) | assumption)
        obtain ⟨ad248, e248, hx248_0⟩ := Kd.at_bool HR1.out x10_1 p248 q248
        (try rw [← Nbq7.out] at hx248_0)
        cases e248
        replace hx248_0 := (HB.out.cell (World.block_lt_of_cell? w _ hx248_0)).trans hx248_0
        replace p248 := eq_true p248
        replace q248 := eq_true q248
        go_upto_region 6 with (fail)
        go_cut [28] (fun v28 wc => ∃ (kq : Nat) (x28_8 : Bool), v28 = .bool x28_8 ∧ Aside0 (q9z.j1 kq l0 l1 x5_1 x10_1 (rd l0 x10_1) l0 (l0.length : Int) x10_1 x28_8 = some r) ∧ Aside0 (kq ≤ k1) ∧ Aside0 (Kd.R k33 33 wc w.heap.size (fun _ => True) u5 x5_1) ∧ Aside0 (Below w.heap.size w wc))
        case first =>
         have H := HC9.out
         clear HC9
         by_cases c10 : x10_1 > 0
         ·
          rw [if_pos c10] at H
          have c10b0 : decide (0 < x10_1) = true := decide_eq_true c10
          clear c10
          (first | rw [c10b0] | (simp only [i64_w, i32_w, IntKind.wrap_u32]; rw [c10b0]) | skip)
          obtain ⟨ji11, hji11⟩ : ∃ j_ : Int, (wrap64 (x10_1 - 1)) = j_ := ⟨_, rfl⟩
          replace H : (if 0 ≤ (ji11) then (if (ji11) < (l1.length : Int) then (q9z.j1 k1 l0 l1 x5_1 x10_1 (rd l0 x10_1) l0 (l0.length : Int) x10_1 (rdOf false l1 (ji11))) else (none)) else (none)) = some r := by first | (rw [hji11] at H; exact H) | (simp only [hji11] at H ⊢; exact H)
          have hji11w : (IntKind.i64.wrap (x10_1 - 1)) = ji11 := (i64_w _).trans hji11
          by_cases c12 : 0 ≤ (ji11)
          ·
           rw [if_pos c12] at H
           have c12b0 : decide (0 ≤ (ji11)) = true := decide_eq_true c12
           clear c12
           by_cases c13 : (ji11) < (l1.length : Int)
           ·
            rw [if_pos c13] at H
            have c13b0 : decide ((ji11) < (l1.length : Int)) = true := decide_eq_true c13
            clear c13
            have H' := Aside0.mk H
            clear H
            have p249 : 0 ≤ ((ji11) : Int) := of_decide_eq_true (by first | (with_reducible assumption) | assumption)
            have q249 : (ji11) < (l1.length : Int) := of_decide_eq_true (by first | (with_reducible assumption) | assumption)
            obtain ⟨ad249, e249, hx249_0⟩ := Kd.at_bool HR1.out (ji11) p249 q249
            (try rw [← Nbq7.out] at hx249_0)
            obtain rfl : ad248 = ad249 := (by injection e249)
            replace hx249_0 := (HB.out.cell (World.block_lt_of_cell? w _ hx249_0)).trans hx249_0
            replace p249 := eq_true p249
            replace q249 := eq_true q249
            go_wp2
            go_meet
            case rel => exact ⟨_, (rdOf false l1 (ji11)), (by first | rfl | (simp; done) | (simp only [← hji11] <;> (first | rfl | simp)) | (simp [*]; done)), H', ⟨by have := HK1.out; first | omega | exact Nat.le_refl _⟩, ⟨by (with_reducible repeat (first | apply Kd.R_alloc | apply Kd.R_drewN | apply Kd.R_drew)); exact HO_5.out⟩, ⟨by repeat (first | (with_reducible first | exact HB.out | apply below_alloc | apply pw_below_drewN | apply below_drew1) | exact HB.out)⟩⟩
           ·
            rw [if_neg c13] at H
            exact absurd H (by simp)
          ·
           rw [if_neg c12] at H
           exact absurd H (by simp)
         ·
          rw [if_neg c10] at H
          have c10b0 : decide (0 < x10_1) = false := decide_eq_false c10
          clear c10
          (first | rw [c10b0] | (simp only [i64_w, i32_w, IntKind.wrap_u32]; rw [c10b0]) | skip)
          have H' := Aside0.mk H
          clear H
          go_wp2
          go_meet
          case rel => exact ⟨_, (false), (by first | rfl | (simp; done) | (simp [*]; done)), H', ⟨by have := HK1.out; first | omega | exact Nat.le_refl _⟩, ⟨by (with_reducible repeat (first | apply Kd.R_alloc | apply Kd.R_drewN | apply Kd.R_drew)); exact HO_5.out⟩, ⟨by repeat (first | (with_reducible first | exact HB.out | apply below_alloc | apply pw_below_drewN | apply below_drew1) | exact HB.out)⟩⟩
        case rest =>
         clear HC9
         try clear c1
         try clear p2
         try clear q2
         try clear hx2
         try clear c3
         try clear c3b0
         try clear c4
         try clear c4b0
         try clear c5
         try clear c5b0
         try clear c6
         try clear c6b0
         try clear p6
         try clear q7
         try clear c8
         try clear c10
         try clear c10b0
         try clear c12
         try clear c12b0
         try clear c13
         try clear c13b0
         try clear hx247_0
         try clear hx248_0
         try clear hx249_0
         try clear p2
         try clear p247
         try clear p248
         try clear p249
         try clear q247
         try clear q248
         try clear q249
         obtain ⟨kq, x28_8, rfl, HA, HJ8, HO_5, HB⟩ := hcut
         cases kq with
         | zero => exact absurd HA.out (by simp [q9z.j1])
         | succ kj8 =>
          have H := HA.out
          clear HA
          simp only [q9z.j1] at H
          by_cases c14 : x28_8 = true
          ·
           subst c14
           have H1 : ((q8z.f l0 x10_1).bind fun t250 => (if 0 ≤ (wrap64 ((x5_1.length : Int) - 1)) then (if (wrap64 ((x5_1.length : Int) - 1)) < (x5_1.length : Int) then (q9z.l0 kj8 l0 l1 (x5_1.set ((wrap64 ((x5_1.length : Int) - 1)) : Int).toNat (⟨(rd_T33 x5_1 (wrap64 ((x5_1.length : Int) - 1))).f0, t250⟩ : S33)) l0 (l0.length : Int) (wrap64 (x10_1 + 1))) else (none)) else (none))) = some r := by rw [if_pos rfl] at H; exact H
           clear H
           have H := H1
           clear H1
           replace H := Option.bind_eq_some_iff.mp H
           obtain ⟨t250, A150, H⟩ := H
           replace H : (if 0 ≤ (wrap64 ((x5_1.length : Int) - 1)) then (if (wrap64 ((x5_1.length : Int) - 1)) < (x5_1.length : Int) then (q9z.l0 kj8 l0 l1 (x5_1.set ((wrap64 ((x5_1.length : Int) - 1)) : Int).toNat (⟨(rd_T33 x5_1 (wrap64 ((x5_1.length : Int) - 1))).f0, t250⟩ : S33)) l0 (l0.length : Int) (wrap64 (x10_1 + 1))) else (none)) else (none)) = some r := H
           have A15 := Aside0.mk A150
           clear A150
           obtain ⟨ji16, hji16⟩ : ∃ j_ : Int, (wrap64 ((x5_1.length : Int) - 1)) = j_ := ⟨_, rfl⟩
           replace H : (if 0 ≤ (ji16) then (if (ji16) < (x5_1.length : Int) then (q9z.l0 kj8 l0 l1 (x5_1.set ((ji16) : Int).toNat (⟨(rd_T33 x5_1 (ji16)).f0, t250⟩ : S33)) l0 (l0.length : Int) (wrap64 (x10_1 + 1))) else (none)) else (none)) = some r := by first | (rw [hji16] at H; exact H) | (simp only [hji16] at H ⊢; exact H)
           (try rw [hji16] at A15)
           have hji16w : (IntKind.i64.wrap ((x5_1.length : Int) - 1)) = ji16 := (i64_w _).trans hji16
           by_cases c17 : 0 ≤ (ji16)
           ·
            rw [if_pos c17] at H
            have c17b0 : decide (0 ≤ (ji16)) = true := decide_eq_true c17
            clear c17
            by_cases c18 : (ji16) < (x5_1.length : Int)
            ·
             rw [if_pos c18] at H
             have c18b0 : decide ((ji16) < (x5_1.length : Int)) = true := decide_eq_true c18
             clear c18
             obtain ⟨y251, hy251⟩ : ∃ y_ : List (S33), y_ = (x5_1.set ((ji16) : Int).toNat (⟨(rd_T33 x5_1 (ji16)).f0, t250⟩ : S33)) := ⟨_, rfl⟩
             replace H : (q9z.l0 kj8 l0 l1 y251 l0 (l0.length : Int) (wrap64 (x10_1 + 1))) = some r := by first | (rw [hy251]; with_reducible exact H) | (have H2_ := (Option.bind_some _ _).symm.trans H; rw [hy251]; with_reducible exact H2_) | (have H2_ := (Option.bind_some _ _).symm.trans H; with_reducible exact H2_) | with_reducible exact H | (rw [hy251]; exact H) | exact H
             have Ny251 := Aside0.mk hy251
             clear hy251
             have H' := Aside0.mk H
             clear H
             obtain ⟨Ao20, co20, eo20⟩ := Kd.R_slice HO_5.out
             subst eo20
             go_wp2_with (first | ((with_reducible refine gate_callee (f := 25) rfl ?_); refine goesL_ (some 35) rfl rfl Try.func25 (by kernel_rfl) rfl #[.slice (some ad247) l0.length c0, .int .i64 x10_1] rfl (by (try simp only [List.map_toArray, List.map_cons, List.map_nil]); first | done | rfl | (simp only [List.length_drop, List.length_take]; rfl)) ?_; (with_reducible refine (q8z.calls _ _ l0 x10_1 t250 _ ?side1 ?side2 A15.out).mono ?_); (case side1 => repeat (first | exact (Kd.C_below HR0.out HB.out) | (with_reducible refine Kd.C_alloc ?_ _) | (with_reducible refine Kd.C_drewN ?_ _) | (with_reducible refine Kd.C_drew ?_))); (case side2 => exact HC0.out); rintro e w' ⟨rfl, ⟨nd, rfl⟩⟩; refine ⟨_, rfl, ?_⟩; (try (rw [drewN_self wc]; generalize hq_ : World.drewN wc _ = wc; have n0_ : Aside0 (Kd.R k33 33 wc w.heap.size (fun _ => True) (.slice Ao20 x5_1.length co20) x5_1) := ⟨by rw [← hq_]; exact (by (with_reducible repeat (first | apply Kd.R_alloc | apply Kd.R_drewN | apply Kd.R_drew)); exact HO_5.out)⟩; have n1_ : Aside0 (Below w.heap.size w wc) := ⟨by rw [← hq_]; exact (by repeat (first | (with_reducible first | exact HB.out | apply below_alloc | apply pw_below_drewN | apply below_drew1) | exact HB.out))⟩; clear HO_5 HB hq_; have HO_5 := n0_; have HB := n1_; clear n0_ n1_)); have p19 : 0 ≤ ((ji16) : Int) := of_decide_eq_true (by first | (with_reducible assumption) | assumption); have q19 : ((ji16) : Int) < ((x5_1.length : Int) : Int) := of_decide_eq_true (by first | (with_reducible assumption) | assumption); obtain ⟨go19, co19, eo19, gb19, gl19, cl19, HG19⟩ := Kd.R_form HO_5.out (by omega); (first | cases eo19 | (injection eo19 with ea_ en_ ec_; (first | subst ea_ | (injection ea_ with ea_; subst ea_)); subst ec_; clear en_)); have GB19 := Aside0.mk gb19; have GG19 := Aside0.mk HG19; clear gb19 gl19 HG19; obtain ⟨ce19, hcl19, hM19, hcc19, hfr19⟩ := Kd.R_elem HO_5.out z33 ((ji16) : Int) p19 q19; obtain rfl := k33_openM hM19; have hx19_0 : wc.cell? ⟨go19, ((ji16) : Int).toNat * 2, none⟩ = some (.int .u32 ((rd_T33 x5_1 (ji16)).f0)) := hcc19 0 _ rfl; have hx19_1 : wc.cell? ⟨go19, ((ji16) : Int).toNat * 2 + 1, none⟩ = some (.int .u32 ((rd_T33 x5_1 (ji16)).f1)) := hcc19 1 _ rfl; have hf19_0 : wc.frozen? ⟨go19, ((ji16) : Int).toNat * 2, none⟩ = false := hfr19 0; have hf19_1 : wc.frozen? ⟨go19, ((ji16) : Int).toNat * 2 + 1, none⟩ = false := hfr19 1; clear hcl19 hcc19 hfr19 hM19; replace p19 := eq_true p19; replace q19 := eq_true q19; have HX21 := Aside0.mk (show Kd.R k33 33 wc w.heap.size (fun _ => True) (.slice (some ⟨go19, 0, none⟩) x5_1.length co20) x5_1 from (by (with_reducible repeat (first | apply Kd.R_alloc | apply Kd.R_drewN | apply Kd.R_drew)); exact HO_5.out)); obtain ⟨ce21, hcl21, hM21, hcc21, hfr21⟩ := Kd.R_elem HX21.out z33 ((ji16) : Int) (of_decide_eq_true (by first | (with_reducible assumption) | assumption)) (by have h_ : ((ji16) : Int) < ((x5_1.length : Int) : Int) := of_decide_eq_true (by first | (with_reducible assumption) | assumption); first | exact h_ | (have e_ := (Kd.R_reads' HO_5.out).1; omega) | simpa using h_); obtain rfl := k33_openM hM21; have HP21 := Kd.R_seg HX21.out ((ji16) : Int) (of_decide_eq_true (by first | (with_reducible assumption) | assumption)) (by have h_ : ((ji16) : Int) < ((x5_1.length : Int) : Int) := of_decide_eq_true (by first | (with_reducible assumption) | assumption); first | exact h_ | (have e_ := (Kd.R_reads' HO_5.out).1; omega) | simpa using h_) (seg := [.int .u32 t250]) (j := 1) hcl21 hcc21 (show 2 ≤ 2 from by decide) (x' := (⟨(rd_T33 x5_1 (ji16)).f0, t250⟩ : S33)) (k33_mkM _ _ _ (⟨(rd_T33 x5_1 (ji16)).f0, t250⟩ : S33) ) (fun _ hk => hk); have hx21_1 := hcc21 1 _ rfl; (try simp only [show (k33).sz = 2 from rfl, Nat.mul_one, Nat.add_zero] at hx21_1); have hf21_1 := hfr21 1; (try simp only [show (k33).sz = 2 from rfl, Nat.mul_one, Nat.add_zero] at hf21_1); clear hcl21 hcc21 hfr21 hM21) | ((with_reducible refine gate_store (t := 29) (p := 37) rfl ?_); refine store_event (t := 29) (p := 37) (v := ?vo_w22) (w1 := (wc.setCell ⟨go19, ((ji16) : Int).toNat * 2 + 1, none⟩ (.int .u32 t250))) ?hg ?ho ?hn ?hr ?_; (case ho => rfl); (case hg => rfl); (case hn => rfl); (case hr => first | (go_simp; done) | (go_simp; rfl)); intro w22 hw; have hg : wc.grownBy w22 (some go19) := (by rw [hw]; exact HP21.2); have hp_ : Kd.R k33 33 w22 w.heap.size (fun _ => True) (.slice (some ⟨go19, 0, none⟩) x5_1.length co20) y251 := (by rw [hw, Ny251.out]; exact HP21.1); clear HP21; have n0_ := Aside0.mk (hp_); have n1_ := Aside0.mk ((by rw [hw]; exact below_set (HB.out) GB19.out : Below w.heap.size w w22)); clear HO_5; clear HB; have HO_5 := n0_; have HB := n1_; clear n0_ n1_; clear hg hw hp_))
             go_roundg kj8
             case measure => have := HK1.out; have := HJ8.out; omega
             case rel => exact ⟨(y251), (wrap64 (x10_1 + 1)), (by first | rfl | (simp; done) | (simp [*]; done)), H', ⟨by have := HK1.out; have := HJ8.out; omega⟩, ⟨by (with_reducible repeat (first | apply Kd.R_alloc | apply Kd.R_drewN | apply Kd.R_drew)); exact HO_5.out⟩, ⟨by repeat (first | (with_reducible first | exact HB.out | apply below_alloc | apply pw_below_drewN | apply below_drew1) | exact HB.out)⟩⟩
            ·
             rw [if_neg c18] at H
             exact absurd H (by simp)
           ·
            rw [if_neg c17] at H
            exact absurd H (by simp)
          ·
           replace c14 := Bool.eq_false_iff.mpr c14
           subst c14
           have H1 : ((q8z.f l0 x10_1).bind fun t252 => (if x5_1.length < 17592186044416 then (q9z.l0 kj8 l0 l1 (x5_1 ++ [(⟨(rd l0 x10_1), t252⟩ : S33)]) l0 (l0.length : Int) (wrap64 (x10_1 + 1))) else (none))) = some r := by rw [if_neg (show ¬ (false = true) by decide)] at H; exact H
           clear H
           have H := H1
           clear H1
           replace H := Option.bind_eq_some_iff.mp H
           obtain ⟨t252, A230, H⟩ := H
           replace H : (if x5_1.length < 17592186044416 then (q9z.l0 kj8 l0 l1 (x5_1 ++ [(⟨(rd l0 x10_1), t252⟩ : S33)]) l0 (l0.length : Int) (wrap64 (x10_1 + 1))) else (none)) = some r := H
           have A23 := Aside0.mk A230
           clear A230
           by_cases c24 : x5_1.length < 17592186044416
           ·
            rw [if_pos c24] at H
            have LMc24 := Aside0.mk c24
            clear c24
            obtain ⟨y253, hy253⟩ : ∃ y_ : List (S33), y_ = (x5_1 ++ [(⟨(rd l0 x10_1), t252⟩ : S33)]) := ⟨_, rfl⟩
            replace H : (q9z.l0 kj8 l0 l1 y253 l0 (l0.length : Int) (wrap64 (x10_1 + 1))) = some r := by first | (rw [hy253]; with_reducible exact H) | (have H2_ := (Option.bind_some _ _).symm.trans H; rw [hy253]; with_reducible exact H2_) | (have H2_ := (Option.bind_some _ _).symm.trans H; with_reducible exact H2_) | with_reducible exact H | (rw [hy253]; exact H) | exact H
            have Ny253 := Aside0.mk hy253
            clear hy253
            have H' := Aside0.mk H
            clear H
            go_wp2_with (first | ((with_reducible refine gate_callee (f := 25) rfl ?_); refine goesL_ (some 42) rfl rfl Try.func25 (by kernel_rfl) rfl #[.slice (some ad247) l0.length c0, .int .i64 x10_1] rfl (by (try simp only [List.map_toArray, List.map_cons, List.map_nil]); first | done | rfl | (simp only [List.length_drop, List.length_take]; rfl)) ?_; (with_reducible refine (q8z.calls _ _ l0 x10_1 t252 _ ?side1 ?side2 A23.out).mono ?_); (case side1 => repeat (first | exact (Kd.C_below HR0.out HB.out) | (with_reducible refine Kd.C_alloc ?_ _) | (with_reducible refine Kd.C_drewN ?_ _) | (with_reducible refine Kd.C_drew ?_))); (case side2 => exact HC0.out); rintro e w' ⟨rfl, ⟨nd, rfl⟩⟩; refine ⟨_, rfl, ?_⟩) | ((with_reducible refine gate_builtin (b := .append) (xs := #[.tmp 38, .tmp 44]) rfl ?_); at_builtin; refine Kd.R_append k33 (w0 := w) w.heap.size rfl (.tmp 38) (.tmp 44) 24 33 (.agg #[(.int .u32 0), (.int .u32 0)]) 8 rfl Try.underlying24 info33 rfl (by decide) (by omega) u5 x5_1 (⟨(rd l0 x10_1), t252⟩ : S33) [.int .u32 (rd l0 x10_1), .int .u32 t252] (fun _ => True) (fun _ => False) rfl rfl ?aP (fun _ hk => hk.elim) ?aF ?aO ?aB ?aS ?aL ?_; (case aP => exact k33_mkM _ _ _ (⟨(rd l0 x10_1), t252⟩ : S33)); (case aB => exact (by repeat (first | (with_reducible first | exact HB.out | apply below_alloc | apply pw_below_drewN | apply below_drew1) | exact HB.out))); (case aF => exact (fun _ _ => trivial)); (case aO => exact (by (with_reducible repeat (first | apply Kd.R_alloc | apply Kd.R_drewN | apply Kd.R_drew)); exact HO_5.out)); (case aS => exact (below_size (by repeat (first | (with_reducible first | exact HB.out | apply below_alloc | apply pw_below_drewN | apply below_drew1) | exact HB.out)))); (case aL => have := LMc24.out; omega); intro v254 w25 ho hb hg hat; rw [← Ny253.out] at ho; have n0_ := Aside0.mk (hb); have n1_ := Aside0.mk (ho); clear HB; clear HO_5; have HB := n0_; have HO255 := n1_; clear n0_ n1_; clear ho hb hg hat))
            go_roundg kj8
            case measure => have := HK1.out; have := HJ8.out; omega
            case rel => exact ⟨(y253), (wrap64 (x10_1 + 1)), (by first | rfl | (simp; done) | (simp [*]; done)), H', ⟨by have := HK1.out; have := HJ8.out; omega⟩, ⟨by (with_reducible repeat (first | apply Kd.R_alloc | apply Kd.R_drewN | apply Kd.R_drew)); exact HO255.out⟩, ⟨by repeat (first | (with_reducible first | exact HB.out | apply below_alloc | apply pw_below_drewN | apply below_drew1) | exact HB.out)⟩⟩
           ·
            rw [if_neg c24] at H
            exact absurd H (by simp)
       ·
        replace c8 := Bool.eq_false_iff.mpr c8
        subst c8
        have H1 : (q9z.l0 k1 l0 l1 x5_1 l0 (l0.length : Int) (wrap64 (x10_1 + 1))) = some r := by rw [if_neg (show ¬ (false = true) by decide)] at H; exact H
        clear H
        have H := H1
        clear H1
        have H' := Aside0.mk H
        clear H
        have p247 : 0 ≤ (x10_1 : Int) := of_decide_eq_true (by first | (with_reducible assumption) | assumption)
        have q247 : x10_1 < (l0.length : Int) := of_decide_eq_true (by first | (with_reducible assumption) | assumption)
        obtain ⟨ad247, e247, hx247_0⟩ := Kd.at_int HR0.out x10_1 p247 q247
        cases e247
        replace hx247_0 := (HB.out.cell (World.block_lt_of_cell? w _ hx247_0)).trans hx247_0
        replace p247 := eq_true p247
        replace q247 := eq_true q247
        have p248 : 0 ≤ (x10_1 : Int) := of_decide_eq_true (by first | (with_reducible assumption) | assumption)
        have q248 : x10_1 < (l1.length : Int) := of_decide_eq_true (by first | (with_reducible assumption) | assumption)
        obtain ⟨ad248, e248, hx248_0⟩ := Kd.at_bool HR1.out x10_1 p248 q248
        (try rw [← Nbq7.out] at hx248_0)
        cases e248
        replace hx248_0 := (HB.out.cell (World.block_lt_of_cell? w _ hx248_0)).trans hx248_0
        replace p248 := eq_true p248
        replace q248 := eq_true q248
        go_wp2
        go_roundg k1
        case measure => have := HK1.out; omega
        case rel => exact ⟨(x5_1), (wrap64 (x10_1 + 1)), (by first | rfl | (simp; done) | (simp [*]; done)), H', ⟨by have := HK1.out; omega⟩, ⟨by (with_reducible repeat (first | apply Kd.R_alloc | apply Kd.R_drewN | apply Kd.R_drew)); exact HO_5.out⟩, ⟨by repeat (first | (with_reducible first | exact HB.out | apply below_alloc | apply pw_below_drewN | apply below_drew1) | exact HB.out)⟩⟩
      ·
       rw [if_neg c6] at H
       exact absurd H (by simp)
     ·
      rw [if_neg c5] at H
      exact absurd H (by simp)
    ·
     rw [if_neg c4] at H
     exact absurd H (by simp)
   ·
    rw [if_neg c3] at H
    have c3b0 : decide (x10_1 < (l0.length : Int)) = false := decide_eq_false c3
    clear c3
    obtain rfl := Option.some.inj H
    go_wp2
    go_ret
    exact ⟨_, by first | rfl | (simp [errW_none, errW_some] <;> rfl) | (simp [*, errW_none, errW_some] <;> rfl), by (with_reducible repeat (first | apply Kd.R_alloc | apply Kd.R_drewN | apply Kd.R_drew)); exact HO_5.out, by repeat (first | (with_reducible first | exact HB.out | apply below_alloc | apply pw_below_drewN | apply below_drew1) | exact HB.out)⟩

end Go.Proofs.Ytconaifcjnpabaa.P

namespace Go.Proofs.Ytconaifcjnpabaa.P
open Go.RowKit Go.Proofs.YtconaifcjnpabaaW.PrintWords Go.Proofs.YtconaifcjnpabaaW.PrintLast Go.Proofs.YtconaifcjnpabaaW.PrintMore
attribute [local go_sem] max2_int min2_int max_two min_two max_three min_three max_four min_four
set_option linter.unusedVariables false
set_option linter.unusedSimpArgs false

/-! ### dragomanref01_Set: function 20 -/
def q10z.l0 : Nat → Int → List (S33) → List (S33) → List Int → List Bool → List Int → Int → Int → Option ((List (S33)))
 | 0, _, _, _, _, _, _, _, _ => none
 | k + 1, x0, x1, x2, x7, x8, x17, x18, x19 => if x19 < x18 then (if 0 ≤ x19 then (if x19 < (x17.length : Int) then ((q5z.f k x1 (rd x17 x19)).bind fun t263 => ((q5z.f k x2 (rd x17 x19)).bind fun t264 => (if x0 = 1 then (if t263 = true then (if x8.length < 140737488355328 then (q10z.l0 k x0 x1 x2 x7 (x8 ++ [true]) x17 x18 (wrap64 (x19 + 1))) else (none)) else (if t264 = true then (if x8.length < 140737488355328 then (q10z.l0 k x0 x1 x2 x7 (x8 ++ [true]) x17 x18 (wrap64 (x19 + 1))) else (none)) else (if x0 = 2 then (if x0 = 3 then (if x8.length < 140737488355328 then (q10z.l0 k x0 x1 x2 x7 (x8 ++ [!t263]) x17 x18 (wrap64 (x19 + 1))) else (none)) else (if x8.length < 140737488355328 then (q10z.l0 k x0 x1 x2 x7 (x8 ++ [false]) x17 x18 (wrap64 (x19 + 1))) else (none))) else (if x0 = 3 then (if x8.length < 140737488355328 then (q10z.l0 k x0 x1 x2 x7 (x8 ++ [!t263]) x17 x18 (wrap64 (x19 + 1))) else (none)) else (if x8.length < 140737488355328 then (q10z.l0 k x0 x1 x2 x7 (x8 ++ [false]) x17 x18 (wrap64 (x19 + 1))) else (none)))))) else (if x0 = 2 then (if t263 = true then (if t264 = true then (if x8.length < 140737488355328 then (q10z.l0 k x0 x1 x2 x7 (x8 ++ [true]) x17 x18 (wrap64 (x19 + 1))) else (none)) else (if x0 = 3 then (if x8.length < 140737488355328 then (q10z.l0 k x0 x1 x2 x7 (x8 ++ [!t263]) x17 x18 (wrap64 (x19 + 1))) else (none)) else (if x8.length < 140737488355328 then (q10z.l0 k x0 x1 x2 x7 (x8 ++ [false]) x17 x18 (wrap64 (x19 + 1))) else (none)))) else (if x0 = 3 then (if x8.length < 140737488355328 then (q10z.l0 k x0 x1 x2 x7 (x8 ++ [!t263]) x17 x18 (wrap64 (x19 + 1))) else (none)) else (if x8.length < 140737488355328 then (q10z.l0 k x0 x1 x2 x7 (x8 ++ [false]) x17 x18 (wrap64 (x19 + 1))) else (none)))) else (if x0 = 3 then (if x8.length < 140737488355328 then (q10z.l0 k x0 x1 x2 x7 (x8 ++ [!t263]) x17 x18 (wrap64 (x19 + 1))) else (none)) else (if x8.length < 140737488355328 then (q10z.l0 k x0 x1 x2 x7 (x8 ++ [false]) x17 x18 (wrap64 (x19 + 1))) else (none))))))) else (none)) else (none)) else ((q9z.f k x7 x8).bind fun t304 => (some t304))
def q10z.f (k : Nat) (a0 : Int) (l1 : List (S33)) (l2 : List (S33)) : Option ((List (S33))) := (q7z.f k (([l1, l2] : List (List (S33))))).bind fun t259 => (q10z.l0 k a0 l1 l2 t259 ([] : List Bool) t259 (t259.length : Int) 0)
theorem q10z.mono_l : ∀ k, (∀ y0 y1 y2 y3 y4 y5 y6 y7, LeO (q10z.l0 k y0 y1 y2 y3 y4 y5 y6 y7) (q10z.l0 (k + 1) y0 y1 y2 y3 y4 y5 y6 y7))
 | 0 => fun _ _ _ _ _ _ _ _ r h => by simp [q10z.l0] at h
 | k + 1 => by
  have ih0 := q10z.mono_l k
  ·
   intro y0 y1 y2 y3 y4 y5 y6 y7
   unfold q10z.l0
   repeat' first
   | (with_reducible exact ih0 _ _ _ _ _ _ _ _)
   | (with_reducible exact q5z.mono _ _ _)
   | (with_reducible exact q7z.mono _ _)
   | (with_reducible exact q9z.mono _ _ _)
   | (with_reducible exact LeO.refl _)
   | (with_reducible exact LeO.none _)
   | (with_reducible refine LeO.ite ?_ ?_)
   | (with_reducible refine LeO.bind ?_ (fun _ => ?_))
   | exact ih0 _ _ _ _ _ _ _ _
   | exact q5z.mono _ _ _
   | exact q7z.mono _ _
   | exact q9z.mono _ _ _
   | exact LeO.none _
   | refine LeO.ite ?_ ?_
   | refine LeO.bind ?_ (fun _ => ?_)
theorem q10z.mono : ∀ a0 a1 a2 k, LeO (q10z.f k a0 a1 a2) (q10z.f (k + 1) a0 a1 a2) := by
 intro a0 a1 a2 k
 have ih0 := q10z.mono_l k
 unfold q10z.f
 repeat' first
   | (with_reducible exact ih0 _ _ _ _ _ _ _ _)
   | (with_reducible exact q5z.mono _ _ _)
   | (with_reducible exact q7z.mono _ _)
   | (with_reducible exact q9z.mono _ _ _)
   | (with_reducible exact LeO.refl _)
   | (with_reducible exact LeO.none _)
   | (with_reducible refine LeO.ite ?_ ?_)
   | (with_reducible refine LeO.bind ?_ (fun _ => ?_))
   | exact ih0 _ _ _ _ _ _ _ _
   | exact q5z.mono _ _ _
   | exact q7z.mono _ _
   | exact q9z.mono _ _ _
   | exact LeO.none _
   | refine LeO.ite ?_ ?_
   | refine LeO.bind ?_ (fun _ => ?_)
set_option maxHeartbeats 8000000 in
set_option maxRecDepth 100000 in
theorem q10z.calls (k : Nat) (a0 : Int) (P1_ : Nat → Prop) (A1 : Option Addr) (c1 : Nat) (l1 : List (S33)) (P2_ : Nat → Prop) (A2 : Option Addr) (c2 : Nat) (l2 : List (S33)) (r : List (S33)) (w : World) (hs1 : Kd.V k33 33 w w.heap.size (fun k_ => P1_ k_) (.slice A1 l1.length c1) l1) (hs2 : Kd.V k33 33 w w.heap.size (fun k_ => P2_ k_) (.slice A2 l2.length c2) l2) (h : q10z.f k a0 l1 l2 = some r) :
  Calls Try.prog 20 #[.int .i64 a0, .slice A1 l1.length c1, .slice A2 l2.length c2] w fun e w' => ∃ v0_ : Value, e = .returned (v0_) ∧ Kd.R k33 33 w' w.heap.size (fun k_ => (w.heap.size ≤ k_)) v0_ r ∧ Below w.heap.size w w' := by
 have HO1 := Aside0.mk (show Kd.V k33 33 w w.heap.size (fun k_ => ((P1_ k_ ∨ P2_ k_) ∨ w.heap.size ≤ k_)) (.slice A1 l1.length c1) l1 from Kd.V_mono hs1 (fun k_ hk => .inl (.inl hk)))
 have HO2 := Aside0.mk (show Kd.V k33 33 w w.heap.size (fun k_ => ((P1_ k_ ∨ P2_ k_) ∨ w.heap.size ≤ k_)) (.slice A2 l2.length c2) l2 from Kd.V_mono hs2 (fun k_ hk => .inl (.inr hk)))
 have HB := Aside0.mk (Below.refl w.heap.size w)
 have H : ((q7z.f k (([l1, l2] : List (List (S33))))).bind fun t259 => (q10z.l0 k a0 l1 l2 t259 ([] : List Bool) t259 (t259.length : Int) 0)) = some r := h
 clear h
 obtain ⟨y256, hy256⟩ : ∃ y_ : List (List (S33)), y_ = (([l1, l2] : List (List (S33)))) := ⟨_, rfl⟩
 replace H : ((q7z.f k y256).bind fun t259 => (q10z.l0 k a0 l1 l2 t259 ([] : List Bool) t259 (t259.length : Int) 0)) = some r := by first | (rw [hy256]; with_reducible exact H) | (have H2_ := (Option.bind_some _ _).symm.trans H; rw [hy256]; with_reducible exact H2_) | (have H2_ := (Option.bind_some _ _).symm.trans H; with_reducible exact H2_) | with_reducible exact H | (rw [hy256]; exact H) | exact H
 have Ny256 := Aside0.mk hy256
 clear hy256
 replace H := Option.bind_eq_some_iff.mp H
 obtain ⟨t259, A40, H⟩ := H
 replace H : (q10z.l0 k a0 l1 l2 t259 ([] : List Bool) t259 (t259.length : Int) 0) = some r := H
 have A4 := Aside0.mk A40
 clear A40
 have H' := Aside0.mk H
 clear H
 go_enter Try.func20, Try.ntmps20
 go_wp2_with (first | ((with_reducible refine gate_dst (N := 15) rfl ?_); refine Kd.N_lit (Kd.slice 33 k33) _ 24 ?hg (N' := 15) ?hd (xs := ([l1, l2] : List (List (S33)))) (inner := [.slice A1 l1.length c1, .slice A2 l2.length c2]) (ok := (fun k_ => ((P1_ k_ ∨ P2_ k_) ∨ w.heap.size ≤ k_))) (okp := (fun k_ => ((P1_ k_ ∨ P2_ k_) ∨ w.heap.size ≤ k_))) ?hr ?hp (fun _ hk => hk) ((show ∀ k_, w.heap.size ≤ k_ → (fun k_ => ((P1_ k_ ∨ P2_ k_) ∨ w.heap.size ≤ k_)) k_ from fun k_ hk => (.inr (Nat.le_trans (below_size (by repeat (first | (with_reducible first | exact HB.out | apply below_alloc | apply pw_below_drewN | apply below_drew1) | exact HB.out))) hk))) _ (Nat.le_refl _)) (Below.refl _ _) (Nat.le_refl _) (by simp) ?_; (case hd => rfl); (case hg => rfl); (case hr => first | (go_simp; done) | (go_simp; rfl)); (case hp => exact (Reps.one (show Kd.FK (Kd.slice 33 k33) _ _ l1 [.slice A1 l1.length c1] from (Kd.FK_slice_mk (Kd.V_reads' (Kd.V_mono (ok' := (fun k_ => ((P1_ k_ ∨ P2_ k_) ∨ w.heap.size ≤ k_))) (HO1.out) (fun k_ hk => hk))).2.1 (Kd.V_F (Kd.V_mono (ok' := (fun k_ => ((P1_ k_ ∨ P2_ k_) ∨ w.heap.size ≤ k_))) (HO1.out) (fun k_ hk => hk))))) (Reps.one (show Kd.FK (Kd.slice 33 k33) _ _ l2 [.slice A2 l2.length c2] from (Kd.FK_slice_mk (Kd.V_reads' (Kd.V_mono (ok' := (fun k_ => ((P1_ k_ ∨ P2_ k_) ∨ w.heap.size ≤ k_))) (HO2.out) (fun k_ hk => hk))).2.1 (Kd.V_F (Kd.V_mono (ok' := (fun k_ => ((P1_ k_ ∨ P2_ k_) ∨ w.heap.size ≤ k_))) (HO2.out) (fun k_ hk => hk))))) (Reps.none _ _)))); intro v257 w5 ho6 hb hg_ hnew_; clear hg_ hnew_; (first | rw [← Ny256.out] at ho6 | (simp only [Int.reduceToNat] at ho6; rw [← Ny256.out] at ho6)); have n0_ := Aside0.mk (Kd.V_elder' (by (with_reducible repeat (first | apply Kd.V_alloc | apply Kd.V_drewN | apply Kd.V_drew)); exact HO1.out) (Kd.N_base ho6) hb); have n1_ := Aside0.mk (Kd.V_elder' (by (with_reducible repeat (first | apply Kd.V_alloc | apply Kd.V_drewN | apply Kd.V_drew)); exact HO2.out) (Kd.N_base ho6) hb); have n2_ := Aside0.mk (Kd.N_lower ho6 (below_size (by repeat (first | (with_reducible first | exact HB.out | apply below_alloc | apply pw_below_drewN | apply below_drew1) | exact HB.out)))); have n3_ := Aside0.mk (below_step (by repeat (first | (with_reducible first | exact HB.out | apply below_alloc | apply pw_below_drewN | apply below_drew1) | exact HB.out)) hb); clear HO1; clear HO2; clear HB; have HO1 := n0_; have HO2 := n1_; have HO258 := n2_; have HB := n3_; clear n0_ n1_ n2_ n3_; clear hb ho6; obtain ⟨Ao7, co7, eo7⟩ := Kd.N_slice HO258.out; subst eo7) | ((with_reducible refine gate_callee (f := 24) rfl ?_); refine goesL_ (some 16) rfl rfl Try.func24 (by kernel_rfl) rfl #[.slice Ao7 y256.length co7] rfl (by (try simp only [List.map_toArray, List.map_cons, List.map_nil]); first | done | rfl | (simp only [List.length_drop, List.length_take]; rfl)) ?_; (with_reducible refine (q7z.calls k _ _ y256 t259 _ ?side1 ?side2 A4.out).mono ?_); (case side1 => repeat (first | exact (Kd.N_reads' HO258.out).2.2 | (with_reducible refine Kd.C_alloc ?_ _) | (with_reducible refine Kd.C_drewN ?_ _) | (with_reducible refine Kd.C_drew ?_))); (case side2 => exact (Kd.N_reads' HO258.out).2.1); rintro e w8 ⟨v260, rfl, ho0, hb⟩; refine ⟨_, rfl, ?_⟩; have n0_ := Aside0.mk (Kd.V_elder' (by (with_reducible repeat (first | apply Kd.V_alloc | apply Kd.V_drewN | apply Kd.V_drew)); exact HO1.out) (Kd.R_base ho0) hb); have n1_ := Aside0.mk (Kd.V_elder' (by (with_reducible repeat (first | apply Kd.V_alloc | apply Kd.V_drewN | apply Kd.V_drew)); exact HO2.out) (Kd.R_base ho0) hb); have n2_ := Aside0.mk (Kd.N_elder' (by (with_reducible repeat (first | apply Kd.N_alloc | apply Kd.N_drewN | apply Kd.N_drew)); exact HO258.out) (Kd.R_base ho0) hb); have n3_ := Aside0.mk (Kd.R_lower (Kd.R_newM (M := fun k_ => (w.heap.size ≤ k_)) ho0 (below_size (by repeat (first | (with_reducible first | exact HB.out | apply below_alloc | apply pw_below_drewN | apply below_drew1) | exact HB.out))) (fun k_ h_ => h_)) (below_size (by repeat (first | (with_reducible first | exact HB.out | apply below_alloc | apply pw_below_drewN | apply below_drew1) | exact HB.out)))); have n4_ := Aside0.mk (below_step (by repeat (first | (with_reducible first | exact HB.out | apply below_alloc | apply pw_below_drewN | apply below_drew1) | exact HB.out)) hb); clear HO1; clear HO2; clear HO258; clear HB; have HO1 := n0_; have HO2 := n1_; have HO258 := n2_; have HO261 := n3_; have HB := n4_; clear n0_ n1_ n2_ n3_ n4_; (try clear hb); (try clear hb2); (try clear hk); (try clear hi); (try clear ho0); obtain ⟨Ao9, co9, eo9⟩ := Kd.R_slice HO261.out; subst eo9))
 go_loopg [8, 19] k (fun kq v8 v19 w' => ∃ (x8_1 : List Bool) (x19_1 : Int), v19 = .int .i64 x19_1 ∧ Aside0 (q10z.l0 kq a0 l1 l2 t259 x8_1 t259 (t259.length : Int) x19_1 = some r) ∧ Aside0 (kq ≤ k) ∧ Aside0 (Kd.V k33 33 w' w.heap.size (fun k_ => ((P1_ k_ ∨ P2_ k_) ∨ w.heap.size ≤ k_) ∧ some k_ ≠ ((.slice Ao9 t259.length co9) : Value).ownBlock ∧ some k_ ≠ (v8 : Value).ownBlock ∧ some k_ ≠ ((.slice Ao9 t259.length co9) : Value).ownBlock) (.slice A1 l1.length c1) l1) ∧ Aside0 (Kd.V k33 33 w' w.heap.size (fun k_ => ((P1_ k_ ∨ P2_ k_) ∨ w.heap.size ≤ k_) ∧ some k_ ≠ ((.slice Ao9 t259.length co9) : Value).ownBlock ∧ some k_ ≠ (v8 : Value).ownBlock ∧ some k_ ≠ ((.slice Ao9 t259.length co9) : Value).ownBlock) (.slice A2 l2.length c2) l2) ∧ Aside0 (Kd.R (Kd.int .u32) 29 w' w.heap.size (fun k_ => (w.heap.size ≤ k_)) (.slice Ao9 t259.length co9) t259) ∧ Aside0 (Kd.R Kd.bool 4 w' w.heap.size (fun k_ => (w.heap.size ≤ k_)) v8 x8_1) ∧ Aside0 (Kd.R (Kd.int .u32) 29 w' w.heap.size (fun k_ => (w.heap.size ≤ k_)) (.slice Ao9 t259.length co9) t259) ∧ Aside0 (Below w.heap.size w w'))
 case atStart => exact ⟨(([] : List Bool)), (0), (by first | rfl | (simp; done) | (simp [*]; done)), H', ⟨Nat.le_refl _⟩, ⟨by (with_reducible repeat (first | apply Kd.V_alloc | apply Kd.V_drewN | apply Kd.V_drew)); exact Kd.V_mono HO1.out (fun _ hk => ⟨hk.1.1, ⟨hk.2, ⟨(by simp [Value.ownBlock]), hk.2⟩⟩⟩)⟩, ⟨by (with_reducible repeat (first | apply Kd.V_alloc | apply Kd.V_drewN | apply Kd.V_drew)); exact Kd.V_mono HO2.out (fun _ hk => ⟨hk.1.1, ⟨hk.2, ⟨(by simp [Value.ownBlock]), hk.2⟩⟩⟩)⟩, ⟨by (with_reducible repeat (first | apply Kd.R_alloc | apply Kd.R_drewN | apply Kd.R_drew)); exact Kd.R_mono HO261.out (fun _ hk => hk.1)⟩, ⟨by first | exact Kd.R_nil _ _ _ _ _ | exact Kd.N_nil _ _ _ _ _ | exact Kd.V_nil _ _ _ _ _ | exact Kd.Q_nil _ _ _ _ _ | exact Kd.S_nil _ _ _ _ _⟩, ⟨by (with_reducible repeat (first | apply Kd.R_alloc | apply Kd.R_drewN | apply Kd.R_drew)); exact Kd.R_mono HO261.out (fun _ hk => hk.1)⟩, ⟨by repeat (first | (with_reducible first | exact HB.out | apply below_alloc | apply pw_below_drewN | apply below_drew1) | exact HB.out)⟩⟩
 case round =>
  clear H'
  try clear c1
  try clear c2
  try clear p2
  obtain ⟨x8_1, x19_1, rfl, HA, HK1, HO_1, HO_2, HO_7, HO_8, HO_17, HB⟩ := hrel
  cases gk with
  | zero => exact absurd HA.out (by simp [q10z.l0])
  | succ k1 =>
   have H := HA.out
   clear HA
   simp only [q10z.l0] at H
   by_cases c10 : x19_1 < (t259.length : Int)
   ·
    rw [if_pos c10] at H
    have c10b0 : decide (x19_1 < (t259.length : Int)) = true := decide_eq_true c10
    clear c10
    by_cases c11 : 0 ≤ x19_1
    ·
     rw [if_pos c11] at H
     have c11b0 : decide (0 ≤ x19_1) = true := decide_eq_true c11
     clear c11
     by_cases c12 : x19_1 < (t259.length : Int)
     ·
      rw [if_pos c12] at H
      have c12b0 : decide (x19_1 < (t259.length : Int)) = true := decide_eq_true c12
      clear c12
      replace H := Option.bind_eq_some_iff.mp H
      obtain ⟨t263, A130, H⟩ := H
      replace H : ((q5z.f k1 l2 (rd t259 x19_1)).bind fun t264 => (if a0 = 1 then (if t263 = true then (if x8_1.length < 140737488355328 then (q10z.l0 k1 a0 l1 l2 t259 (x8_1 ++ [true]) t259 (t259.length : Int) (wrap64 (x19_1 + 1))) else (none)) else (if t264 = true then (if x8_1.length < 140737488355328 then (q10z.l0 k1 a0 l1 l2 t259 (x8_1 ++ [true]) t259 (t259.length : Int) (wrap64 (x19_1 + 1))) else (none)) else (if a0 = 2 then (if a0 = 3 then (if x8_1.length < 140737488355328 then (q10z.l0 k1 a0 l1 l2 t259 (x8_1 ++ [!t263]) t259 (t259.length : Int) (wrap64 (x19_1 + 1))) else (none)) else (if x8_1.length < 140737488355328 then (q10z.l0 k1 a0 l1 l2 t259 (x8_1 ++ [false]) t259 (t259.length : Int) (wrap64 (x19_1 + 1))) else (none))) else (if a0 = 3 then (if x8_1.length < 140737488355328 then (q10z.l0 k1 a0 l1 l2 t259 (x8_1 ++ [!t263]) t259 (t259.length : Int) (wrap64 (x19_1 + 1))) else (none)) else (if x8_1.length < 140737488355328 then (q10z.l0 k1 a0 l1 l2 t259 (x8_1 ++ [false]) t259 (t259.length : Int) (wrap64 (x19_1 + 1))) else (none)))))) else (if a0 = 2 then (if t263 = true then (if t264 = true then (if x8_1.length < 140737488355328 then (q10z.l0 k1 a0 l1 l2 t259 (x8_1 ++ [true]) t259 (t259.length : Int) (wrap64 (x19_1 + 1))) else (none)) else (if a0 = 3 then (if x8_1.length < 140737488355328 then (q10z.l0 k1 a0 l1 l2 t259 (x8_1 ++ [!t263]) t259 (t259.length : Int) (wrap64 (x19_1 + 1))) else (none)) else (if x8_1.length < 140737488355328 then (q10z.l0 k1 a0 l1 l2 t259 (x8_1 ++ [false]) t259 (t259.length : Int) (wrap64 (x19_1 + 1))) else (none)))) else (if a0 = 3 then (if x8_1.length < 140737488355328 then (q10z.l0 k1 a0 l1 l2 t259 (x8_1 ++ [!t263]) t259 (t259.length : Int) (wrap64 (x19_1 + 1))) else (none)) else (if x8_1.length < 140737488355328 then (q10z.l0 k1 a0 l1 l2 t259 (x8_1 ++ [false]) t259 (t259.length : Int) (wrap64 (x19_1 + 1))) else (none)))) else (if a0 = 3 then (if x8_1.length < 140737488355328 then (q10z.l0 k1 a0 l1 l2 t259 (x8_1 ++ [!t263]) t259 (t259.length : Int) (wrap64 (x19_1 + 1))) else (none)) else (if x8_1.length < 140737488355328 then (q10z.l0 k1 a0 l1 l2 t259 (x8_1 ++ [false]) t259 (t259.length : Int) (wrap64 (x19_1 + 1))) else (none)))))) = some r := H
      have A13 := Aside0.mk A130
      clear A130
      replace H := Option.bind_eq_some_iff.mp H
      obtain ⟨t264, A140, H⟩ := H
      replace H : (if a0 = 1 then (if t263 = true then (if x8_1.length < 140737488355328 then (q10z.l0 k1 a0 l1 l2 t259 (x8_1 ++ [true]) t259 (t259.length : Int) (wrap64 (x19_1 + 1))) else (none)) else (if t264 = true then (if x8_1.length < 140737488355328 then (q10z.l0 k1 a0 l1 l2 t259 (x8_1 ++ [true]) t259 (t259.length : Int) (wrap64 (x19_1 + 1))) else (none)) else (if a0 = 2 then (if a0 = 3 then (if x8_1.length < 140737488355328 then (q10z.l0 k1 a0 l1 l2 t259 (x8_1 ++ [!t263]) t259 (t259.length : Int) (wrap64 (x19_1 + 1))) else (none)) else (if x8_1.length < 140737488355328 then (q10z.l0 k1 a0 l1 l2 t259 (x8_1 ++ [false]) t259 (t259.length : Int) (wrap64 (x19_1 + 1))) else (none))) else (if a0 = 3 then (if x8_1.length < 140737488355328 then (q10z.l0 k1 a0 l1 l2 t259 (x8_1 ++ [!t263]) t259 (t259.length : Int) (wrap64 (x19_1 + 1))) else (none)) else (if x8_1.length < 140737488355328 then (q10z.l0 k1 a0 l1 l2 t259 (x8_1 ++ [false]) t259 (t259.length : Int) (wrap64 (x19_1 + 1))) else (none)))))) else (if a0 = 2 then (if t263 = true then (if t264 = true then (if x8_1.length < 140737488355328 then (q10z.l0 k1 a0 l1 l2 t259 (x8_1 ++ [true]) t259 (t259.length : Int) (wrap64 (x19_1 + 1))) else (none)) else (if a0 = 3 then (if x8_1.length < 140737488355328 then (q10z.l0 k1 a0 l1 l2 t259 (x8_1 ++ [!t263]) t259 (t259.length : Int) (wrap64 (x19_1 + 1))) else (none)) else (if x8_1.length < 140737488355328 then (q10z.l0 k1 a0 l1 l2 t259 (x8_1 ++ [false]) t259 (t259.length : Int) (wrap64 (x19_1 + 1))) else (none)))) else (if a0 = 3 then (if x8_1.length < 140737488355328 then (q10z.l0 k1 a0 l1 l2 t259 (x8_1 ++ [!t263]) t259 (t259.length : Int) (wrap64 (x19_1 + 1))) else (none)) else (if x8_1.length < 140737488355328 then (q10z.l0 k1 a0 l1 l2 t259 (x8_1 ++ [false]) t259 (t259.length : Int) (wrap64 (x19_1 + 1))) else (none)))) else (if a0 = 3 then (if x8_1.length < 140737488355328 then (q10z.l0 k1 a0 l1 l2 t259 (x8_1 ++ [!t263]) t259 (t259.length : Int) (wrap64 (x19_1 + 1))) else (none)) else (if x8_1.length < 140737488355328 then (q10z.l0 k1 a0 l1 l2 t259 (x8_1 ++ [false]) t259 (t259.length : Int) (wrap64 (x19_1 + 1))) else (none))))) = some r := H
      have A14 := Aside0.mk A140
      clear A140
      by_cases c15 : a0 = 1
      ·
       rw [if_pos c15] at H
       have c15b0 : (a0 == 1) = true := beq_iff_eq.mpr c15
       have c15b1 : (a0 != 1) = false := bne_eq_false_iff_eq.mpr c15
       clear c15
       by_cases c16 : t263 = true
       ·
        subst c16
        have H1 : (if x8_1.length < 140737488355328 then (q10z.l0 k1 a0 l1 l2 t259 (x8_1 ++ [true]) t259 (t259.length : Int) (wrap64 (x19_1 + 1))) else (none)) = some r := by rw [if_pos rfl] at H; exact H
        clear H
        have H := H1
        clear H1
        by_cases c17 : x8_1.length < 140737488355328
        ·
         rw [if_pos c17] at H
         have LMc17 := Aside0.mk c17
         clear c17
         obtain ⟨y265, hy265⟩ : ∃ y_ : List Bool, y_ = (x8_1 ++ [true]) := ⟨_, rfl⟩
         replace H : (q10z.l0 k1 a0 l1 l2 t259 y265 t259 (t259.length : Int) (wrap64 (x19_1 + 1))) = some r := by first | (rw [hy265]; with_reducible exact H) | (have H2_ := (Option.bind_some _ _).symm.trans H; rw [hy265]; with_reducible exact H2_) | (have H2_ := (Option.bind_some _ _).symm.trans H; with_reducible exact H2_) | with_reducible exact H | (rw [hy265]; exact H) | exact H
         have Ny265 := Aside0.mk hy265
         clear hy265
         have H' := Aside0.mk H
         clear H
         have p262 : 0 ≤ (x19_1 : Int) := of_decide_eq_true (by first | (with_reducible assumption) | assumption)
         have q262 : x19_1 < (t259.length : Int) := of_decide_eq_true (by first | (with_reducible assumption) | assumption)
         obtain ⟨ad262, e262, hx262_0⟩ := Kd.at_int (Kd.R_reads' HO_17.out).2.2 x19_1 p262 q262
         cases e262
         replace p262 := eq_true p262
         replace q262 := eq_true q262
         go_wp2_with (first | ((with_reducible refine gate_callee (f := 17) rfl ?_); refine goesL_ (some 25) rfl rfl Try.func17 (by kernel_rfl) rfl #[.slice A1 l1.length c1, .int .u32 (rd t259 x19_1)] rfl (by (try simp only [List.map_toArray, List.map_cons, List.map_nil]); first | done | rfl | (simp only [List.length_drop, List.length_take]; rfl)) ?_; (with_reducible refine (q5z.calls k1 _ _ l1 (rd t259 x19_1) true _ ?side1 ?side2 A13.out).mono ?_); (case side1 => repeat (first | exact (Kd.V_reads' HO_1.out).2.2 | (with_reducible refine Kd.C_alloc ?_ _) | (with_reducible refine Kd.C_drewN ?_ _) | (with_reducible refine Kd.C_drew ?_))); (case side2 => exact (Kd.V_reads' HO_1.out).2.1); rintro e w18 ⟨rfl, hb⟩; refine ⟨_, rfl, ?_⟩; have n0_ := Aside0.mk (Kd.V_below (by (with_reducible repeat (first | apply Kd.V_alloc | apply Kd.V_drewN | apply Kd.V_drew)); exact HO_1.out) hb); have n1_ := Aside0.mk (Kd.V_below (by (with_reducible repeat (first | apply Kd.V_alloc | apply Kd.V_drewN | apply Kd.V_drew)); exact HO_2.out) hb); have n2_ := Aside0.mk (Kd.R_below (by (with_reducible repeat (first | apply Kd.R_alloc | apply Kd.R_drewN | apply Kd.R_drew)); exact HO_7.out) hb); have n3_ := Aside0.mk (Kd.R_below (by (with_reducible repeat (first | apply Kd.R_alloc | apply Kd.R_drewN | apply Kd.R_drew)); exact HO_8.out) hb); have n4_ := Aside0.mk (Kd.R_below (by (with_reducible repeat (first | apply Kd.R_alloc | apply Kd.R_drewN | apply Kd.R_drew)); exact HO_17.out) hb); have n5_ := Aside0.mk (below_step (by repeat (first | (with_reducible first | exact HB.out | apply below_alloc | apply pw_below_drewN | apply below_drew1) | exact HB.out)) hb); clear HO_1; clear HO_2; clear HO_7; clear HO_8; clear HO_17; clear HB; have HO_1 := n0_; have HO_2 := n1_; have HO_7 := n2_; have HO_8 := n3_; have HO_17 := n4_; have HB := n5_; clear n0_ n1_ n2_ n3_ n4_ n5_; (try clear hb); (try clear hb2); (try clear hk); (try clear hi)) | ((with_reducible refine gate_callee (f := 17) rfl ?_); refine goesL_ (some 28) rfl rfl Try.func17 (by kernel_rfl) rfl #[.slice A2 l2.length c2, .int .u32 (rd t259 x19_1)] rfl (by (try simp only [List.map_toArray, List.map_cons, List.map_nil]); first | done | rfl | (simp only [List.length_drop, List.length_take]; rfl)) ?_; (with_reducible refine (q5z.calls k1 _ _ l2 (rd t259 x19_1) t264 _ ?side1 ?side2 A14.out).mono ?_); (case side1 => repeat (first | exact (Kd.V_reads' HO_2.out).2.2 | (with_reducible refine Kd.C_alloc ?_ _) | (with_reducible refine Kd.C_drewN ?_ _) | (with_reducible refine Kd.C_drew ?_))); (case side2 => exact (Kd.V_reads' HO_2.out).2.1); rintro e w19 ⟨rfl, hb⟩; refine ⟨_, rfl, ?_⟩; have n0_ := Aside0.mk (Kd.V_below (by (with_reducible repeat (first | apply Kd.V_alloc | apply Kd.V_drewN | apply Kd.V_drew)); exact HO_1.out) hb); have n1_ := Aside0.mk (Kd.V_below (by (with_reducible repeat (first | apply Kd.V_alloc | apply Kd.V_drewN | apply Kd.V_drew)); exact HO_2.out) hb); have n2_ := Aside0.mk (Kd.R_below (by (with_reducible repeat (first | apply Kd.R_alloc | apply Kd.R_drewN | apply Kd.R_drew)); exact HO_7.out) hb); have n3_ := Aside0.mk (Kd.R_below (by (with_reducible repeat (first | apply Kd.R_alloc | apply Kd.R_drewN | apply Kd.R_drew)); exact HO_8.out) hb); have n4_ := Aside0.mk (Kd.R_below (by (with_reducible repeat (first | apply Kd.R_alloc | apply Kd.R_drewN | apply Kd.R_drew)); exact HO_17.out) hb); have n5_ := Aside0.mk (below_step (by repeat (first | (with_reducible first | exact HB.out | apply below_alloc | apply pw_below_drewN | apply below_drew1) | exact HB.out)) hb); clear HO_1; clear HO_2; clear HO_7; clear HO_8; clear HO_17; clear HB; have HO_1 := n0_; have HO_2 := n1_; have HO_7 := n2_; have HO_8 := n3_; have HO_17 := n4_; have HB := n5_; clear n0_ n1_ n2_ n3_ n4_ n5_; (try clear hb); (try clear hb2); (try clear hk); (try clear hi)) | ((with_reducible refine gate_builtin (b := .append) (xs := #[.tmp 29, .tmp 56]) rfl ?_); at_builtin; refine Kd.R_append Kd.bool (w0 := w) w.heap.size rfl (.tmp 29) (.tmp 56) 48 4 (.bool false) 1 rfl Try.underlying48 info4 rfl (by decide) (by omega) u8 x8_1 true [.bool true] (fun k_ => (w.heap.size ≤ k_)) (fun _ => False) rfl rfl ?aP (fun _ hk => hk.elim) ?aF ?aO ?aB ?aS ?aL ?_; (case aP => exact rfl); (case aB => exact (by repeat (first | (with_reducible first | exact HB.out | apply below_alloc | apply pw_below_drewN | apply below_drew1) | exact HB.out))); (case aF => exact (fun k_ hk => (Nat.le_trans (below_size (by repeat (first | (with_reducible first | exact HB.out | apply below_alloc | apply pw_below_drewN | apply below_drew1) | exact HB.out))) hk))); (case aO => exact (by (with_reducible repeat (first | apply Kd.R_alloc | apply Kd.R_drewN | apply Kd.R_drew)); exact HO_8.out)); (case aS => exact (below_size (by repeat (first | (with_reducible first | exact HB.out | apply below_alloc | apply pw_below_drewN | apply below_drew1) | exact HB.out)))); (case aL => have := LMc17.out; omega); intro v266 w20 ho hb hg hat; rw [← Ny265.out] at ho; have n0_ := Aside0.mk (Kd.V_afterv (ok := (fun k_ => ((P1_ k_ ∨ P2_ k_) ∨ w.heap.size ≤ k_) ∧ some k_ ≠ (.slice (some ad262) t259.length co9 : Value).ownBlock ∧ some k_ ≠ (.slice (some ad262) t259.length co9 : Value).ownBlock)) (by (with_reducible repeat (first | apply Kd.V_alloc | apply Kd.V_drewN | apply Kd.V_drew)); exact Kd.V_mono HO_1.out (fun _ hk => ⟨⟨hk.1, ⟨hk.2.1, hk.2.2.2⟩⟩, hk.2.2.1⟩)) hg hat); have n1_ := Aside0.mk (Kd.V_afterv (ok := (fun k_ => ((P1_ k_ ∨ P2_ k_) ∨ w.heap.size ≤ k_) ∧ some k_ ≠ (.slice (some ad262) t259.length co9 : Value).ownBlock ∧ some k_ ≠ (.slice (some ad262) t259.length co9 : Value).ownBlock)) (by (with_reducible repeat (first | apply Kd.V_alloc | apply Kd.V_drewN | apply Kd.V_drew)); exact Kd.V_mono HO_2.out (fun _ hk => ⟨⟨hk.1, ⟨hk.2.1, hk.2.2.2⟩⟩, hk.2.2.1⟩)) hg hat); have n2_ := Aside0.mk (Kd.R_over' (by (with_reducible repeat (first | apply Kd.R_alloc | apply Kd.R_drewN | apply Kd.R_drew)); exact HO_7.out) (Kd.R_typed (by (with_reducible repeat (first | apply Kd.R_alloc | apply Kd.R_drewN | apply Kd.R_drew)); exact HO_8.out)) (by decide) hg); have n3_ := Aside0.mk (Kd.R_over' (by (with_reducible repeat (first | apply Kd.R_alloc | apply Kd.R_drewN | apply Kd.R_drew)); exact HO_17.out) (Kd.R_typed (by (with_reducible repeat (first | apply Kd.R_alloc | apply Kd.R_drewN | apply Kd.R_drew)); exact HO_8.out)) (by decide) hg); have n4_ := Aside0.mk (hb); have n5_ := Aside0.mk (ho); clear HO_1; clear HO_2; clear HO_7; clear HO_17; clear HB; clear HO_8; have HO_1 := n0_; have HO_2 := n1_; have HO_7 := n2_; have HO_17 := n3_; have HB := n4_; have HO267 := n5_; clear n0_ n1_ n2_ n3_ n4_ n5_; clear ho hb hg hat))
         go_roundg k1
         case measure => have := HK1.out; omega
         case rel => exact ⟨(y265), (wrap64 (x19_1 + 1)), (by first | rfl | (simp; done) | (simp [*]; done)), H', ⟨by have := HK1.out; omega⟩, ⟨by (with_reducible repeat (first | apply Kd.V_alloc | apply Kd.V_drewN | apply Kd.V_drew)); exact Kd.V_mono HO_1.out (fun _ hk => ⟨hk.1.1, ⟨hk.1.2.1, ⟨hk.2, hk.1.2.2⟩⟩⟩)⟩, ⟨by (with_reducible repeat (first | apply Kd.V_alloc | apply Kd.V_drewN | apply Kd.V_drew)); exact Kd.V_mono HO_2.out (fun _ hk => ⟨hk.1.1, ⟨hk.1.2.1, ⟨hk.2, hk.1.2.2⟩⟩⟩)⟩, ⟨by (with_reducible repeat (first | apply Kd.R_alloc | apply Kd.R_drewN | apply Kd.R_drew)); exact HO_7.out⟩, ⟨by (with_reducible repeat (first | apply Kd.R_alloc | apply Kd.R_drewN | apply Kd.R_drew)); exact HO267.out⟩, ⟨by (with_reducible repeat (first | apply Kd.R_alloc | apply Kd.R_drewN | apply Kd.R_drew)); exact HO_17.out⟩, ⟨by repeat (first | (with_reducible first | exact HB.out | apply below_alloc | apply pw_below_drewN | apply below_drew1) | exact HB.out)⟩⟩
        ·
         rw [if_neg c17] at H
         exact absurd H (by simp)
       ·
        replace c16 := Bool.eq_false_iff.mpr c16
        subst c16
        have H1 : (if t264 = true then (if x8_1.length < 140737488355328 then (q10z.l0 k1 a0 l1 l2 t259 (x8_1 ++ [true]) t259 (t259.length : Int) (wrap64 (x19_1 + 1))) else (none)) else (if a0 = 2 then (if a0 = 3 then (if x8_1.length < 140737488355328 then (q10z.l0 k1 a0 l1 l2 t259 (x8_1 ++ [!false]) t259 (t259.length : Int) (wrap64 (x19_1 + 1))) else (none)) else (if x8_1.length < 140737488355328 then (q10z.l0 k1 a0 l1 l2 t259 (x8_1 ++ [false]) t259 (t259.length : Int) (wrap64 (x19_1 + 1))) else (none))) else (if a0 = 3 then (if x8_1.length < 140737488355328 then (q10z.l0 k1 a0 l1 l2 t259 (x8_1 ++ [!false]) t259 (t259.length : Int) (wrap64 (x19_1 + 1))) else (none)) else (if x8_1.length < 140737488355328 then (q10z.l0 k1 a0 l1 l2 t259 (x8_1 ++ [false]) t259 (t259.length : Int) (wrap64 (x19_1 + 1))) else (none))))) = some r := by rw [if_neg (show ¬ (false = true) by decide)] at H; exact H
        clear H
        have H := H1
        clear H1
        by_cases c21 : t264 = true
        ·
         subst c21
         have H1 : (if x8_1.length < 140737488355328 then (q10z.l0 k1 a0 l1 l2 t259 (x8_1 ++ [true]) t259 (t259.length : Int) (wrap64 (x19_1 + 1))) else (none)) = some r := by rw [if_pos rfl] at H; exact H
         clear H
         have H := H1
         clear H1
         by_cases c22 : x8_1.length < 140737488355328
         ·
          rw [if_pos c22] at H
          have LMc22 := Aside0.mk c22
          clear c22
          obtain ⟨y268, hy268⟩ : ∃ y_ : List Bool, y_ = (x8_1 ++ [true]) := ⟨_, rfl⟩
          replace H : (q10z.l0 k1 a0 l1 l2 t259 y268 t259 (t259.length : Int) (wrap64 (x19_1 + 1))) = some r := by first | (rw [hy268]; with_reducible exact H) | (have H2_ := (Option.bind_some _ _).symm.trans H; rw [hy268]; with_reducible exact H2_) | (have H2_ := (Option.bind_some _ _).symm.trans H; with_reducible exact H2_) | with_reducible exact H | (rw [hy268]; exact H) | exact H
          have Ny268 := Aside0.mk hy268
          clear hy268
          have H' := Aside0.mk H
          clear H
          have p262 : 0 ≤ (x19_1 : Int) := of_decide_eq_true (by first | (with_reducible assumption) | assumption)
          have q262 : x19_1 < (t259.length : Int) := of_decide_eq_true (by first | (with_reducible assumption) | assumption)
          obtain ⟨ad262, e262, hx262_0⟩ := Kd.at_int (Kd.R_reads' HO_17.out).2.2 x19_1 p262 q262
          cases e262
          replace p262 := eq_true p262
          replace q262 := eq_true q262
          go_wp2_with (first | ((with_reducible refine gate_callee (f := 17) rfl ?_); refine goesL_ (some 25) rfl rfl Try.func17 (by kernel_rfl) rfl #[.slice A1 l1.length c1, .int .u32 (rd t259 x19_1)] rfl (by (try simp only [List.map_toArray, List.map_cons, List.map_nil]); first | done | rfl | (simp only [List.length_drop, List.length_take]; rfl)) ?_; (with_reducible refine (q5z.calls k1 _ _ l1 (rd t259 x19_1) false _ ?side1 ?side2 A13.out).mono ?_); (case side1 => repeat (first | exact (Kd.V_reads' HO_1.out).2.2 | (with_reducible refine Kd.C_alloc ?_ _) | (with_reducible refine Kd.C_drewN ?_ _) | (with_reducible refine Kd.C_drew ?_))); (case side2 => exact (Kd.V_reads' HO_1.out).2.1); rintro e w23 ⟨rfl, hb⟩; refine ⟨_, rfl, ?_⟩; have n0_ := Aside0.mk (Kd.V_below (by (with_reducible repeat (first | apply Kd.V_alloc | apply Kd.V_drewN | apply Kd.V_drew)); exact HO_1.out) hb); have n1_ := Aside0.mk (Kd.V_below (by (with_reducible repeat (first | apply Kd.V_alloc | apply Kd.V_drewN | apply Kd.V_drew)); exact HO_2.out) hb); have n2_ := Aside0.mk (Kd.R_below (by (with_reducible repeat (first | apply Kd.R_alloc | apply Kd.R_drewN | apply Kd.R_drew)); exact HO_7.out) hb); have n3_ := Aside0.mk (Kd.R_below (by (with_reducible repeat (first | apply Kd.R_alloc | apply Kd.R_drewN | apply Kd.R_drew)); exact HO_8.out) hb); have n4_ := Aside0.mk (Kd.R_below (by (with_reducible repeat (first | apply Kd.R_alloc | apply Kd.R_drewN | apply Kd.R_drew)); exact HO_17.out) hb); have n5_ := Aside0.mk (below_step (by repeat (first | (with_reducible first | exact HB.out | apply below_alloc | apply pw_below_drewN | apply below_drew1) | exact HB.out)) hb); clear HO_1; clear HO_2; clear HO_7; clear HO_8; clear HO_17; clear HB; have HO_1 := n0_; have HO_2 := n1_; have HO_7 := n2_; have HO_8 := n3_; have HO_17 := n4_; have HB := n5_; clear n0_ n1_ n2_ n3_ n4_ n5_; (try clear hb); (try clear hb2); (try clear hk); (try clear hi)) | ((with_reducible refine gate_callee (f := 17) rfl ?_); refine goesL_ (some 28) rfl rfl Try.func17 (by kernel_rfl) rfl #[.slice A2 l2.length c2, .int .u32 (rd t259 x19_1)] rfl (by (try simp only [List.map_toArray, List.map_cons, List.map_nil]); first | done | rfl | (simp only [List.length_drop, List.length_take]; rfl)) ?_; (with_reducible refine (q5z.calls k1 _ _ l2 (rd t259 x19_1) true _ ?side1 ?side2 A14.out).mono ?_); (case side1 => repeat (first | exact (Kd.V_reads' HO_2.out).2.2 | (with_reducible refine Kd.C_alloc ?_ _) | (with_reducible refine Kd.C_drewN ?_ _) | (with_reducible refine Kd.C_drew ?_))); (case side2 => exact (Kd.V_reads' HO_2.out).2.1); rintro e w24 ⟨rfl, hb⟩; refine ⟨_, rfl, ?_⟩; have n0_ := Aside0.mk (Kd.V_below (by (with_reducible repeat (first | apply Kd.V_alloc | apply Kd.V_drewN | apply Kd.V_drew)); exact HO_1.out) hb); have n1_ := Aside0.mk (Kd.V_below (by (with_reducible repeat (first | apply Kd.V_alloc | apply Kd.V_drewN | apply Kd.V_drew)); exact HO_2.out) hb); have n2_ := Aside0.mk (Kd.R_below (by (with_reducible repeat (first | apply Kd.R_alloc | apply Kd.R_drewN | apply Kd.R_drew)); exact HO_7.out) hb); have n3_ := Aside0.mk (Kd.R_below (by (with_reducible repeat (first | apply Kd.R_alloc | apply Kd.R_drewN | apply Kd.R_drew)); exact HO_8.out) hb); have n4_ := Aside0.mk (Kd.R_below (by (with_reducible repeat (first | apply Kd.R_alloc | apply Kd.R_drewN | apply Kd.R_drew)); exact HO_17.out) hb); have n5_ := Aside0.mk (below_step (by repeat (first | (with_reducible first | exact HB.out | apply below_alloc | apply pw_below_drewN | apply below_drew1) | exact HB.out)) hb); clear HO_1; clear HO_2; clear HO_7; clear HO_8; clear HO_17; clear HB; have HO_1 := n0_; have HO_2 := n1_; have HO_7 := n2_; have HO_8 := n3_; have HO_17 := n4_; have HB := n5_; clear n0_ n1_ n2_ n3_ n4_ n5_; (try clear hb); (try clear hb2); (try clear hk); (try clear hi)) | ((with_reducible refine gate_builtin (b := .append) (xs := #[.tmp 29, .tmp 56]) rfl ?_); at_builtin; refine Kd.R_append Kd.bool (w0 := w) w.heap.size rfl (.tmp 29) (.tmp 56) 48 4 (.bool false) 1 rfl Try.underlying48 info4 rfl (by decide) (by omega) u8 x8_1 true [.bool true] (fun k_ => (w.heap.size ≤ k_)) (fun _ => False) rfl rfl ?aP (fun _ hk => hk.elim) ?aF ?aO ?aB ?aS ?aL ?_; (case aP => exact rfl); (case aB => exact (by repeat (first | (with_reducible first | exact HB.out | apply below_alloc | apply pw_below_drewN | apply below_drew1) | exact HB.out))); (case aF => exact (fun k_ hk => (Nat.le_trans (below_size (by repeat (first | (with_reducible first | exact HB.out | apply below_alloc | apply pw_below_drewN | apply below_drew1) | exact HB.out))) hk))); (case aO => exact (by (with_reducible repeat (first | apply Kd.R_alloc | apply Kd.R_drewN | apply Kd.R_drew)); exact HO_8.out)); (case aS => exact (below_size (by repeat (first | (with_reducible first | exact HB.out | apply below_alloc | apply pw_below_drewN | apply below_drew1) | exact HB.out)))); (case aL => have := LMc22.out; omega); intro v269 w25 ho hb hg hat; rw [← Ny268.out] at ho; have n0_ := Aside0.mk (Kd.V_afterv (ok := (fun k_ => ((P1_ k_ ∨ P2_ k_) ∨ w.heap.size ≤ k_) ∧ some k_ ≠ (.slice (some ad262) t259.length co9 : Value).ownBlock ∧ some k_ ≠ (.slice (some ad262) t259.length co9 : Value).ownBlock)) (by (with_reducible repeat (first | apply Kd.V_alloc | apply Kd.V_drewN | apply Kd.V_drew)); exact Kd.V_mono HO_1.out (fun _ hk => ⟨⟨hk.1, ⟨hk.2.1, hk.2.2.2⟩⟩, hk.2.2.1⟩)) hg hat); have n1_ := Aside0.mk (Kd.V_afterv (ok := (fun k_ => ((P1_ k_ ∨ P2_ k_) ∨ w.heap.size ≤ k_) ∧ some k_ ≠ (.slice (some ad262) t259.length co9 : Value).ownBlock ∧ some k_ ≠ (.slice (some ad262) t259.length co9 : Value).ownBlock)) (by (with_reducible repeat (first | apply Kd.V_alloc | apply Kd.V_drewN | apply Kd.V_drew)); exact Kd.V_mono HO_2.out (fun _ hk => ⟨⟨hk.1, ⟨hk.2.1, hk.2.2.2⟩⟩, hk.2.2.1⟩)) hg hat); have n2_ := Aside0.mk (Kd.R_over' (by (with_reducible repeat (first | apply Kd.R_alloc | apply Kd.R_drewN | apply Kd.R_drew)); exact HO_7.out) (Kd.R_typed (by (with_reducible repeat (first | apply Kd.R_alloc | apply Kd.R_drewN | apply Kd.R_drew)); exact HO_8.out)) (by decide) hg); have n3_ := Aside0.mk (Kd.R_over' (by (with_reducible repeat (first | apply Kd.R_alloc | apply Kd.R_drewN | apply Kd.R_drew)); exact HO_17.out) (Kd.R_typed (by (with_reducible repeat (first | apply Kd.R_alloc | apply Kd.R_drewN | apply Kd.R_drew)); exact HO_8.out)) (by decide) hg); have n4_ := Aside0.mk (hb); have n5_ := Aside0.mk (ho); clear HO_1; clear HO_2; clear HO_7; clear HO_17; clear HB; clear HO_8; have HO_1 := n0_; have HO_2 := n1_; have HO_7 := n2_; have HO_17 := n3_; have HB := n4_; have HO270 := n5_; clear n0_ n1_ n2_ n3_ n4_ n5_; clear ho hb hg hat))
          go_roundg k1
          case measure => have := HK1.out; omega
          case rel => exact ⟨(y268), (wrap64 (x19_1 + 1)), (by first | rfl | (simp; done) | (simp [*]; done)), H', ⟨by have := HK1.out; omega⟩, ⟨by (with_reducible repeat (first | apply Kd.V_alloc | apply Kd.V_drewN | apply Kd.V_drew)); exact Kd.V_mono HO_1.out (fun _ hk => ⟨hk.1.1, ⟨hk.1.2.1, ⟨hk.2, hk.1.2.2⟩⟩⟩)⟩, ⟨by (with_reducible repeat (first | apply Kd.V_alloc | apply Kd.V_drewN | apply Kd.V_drew)); exact Kd.V_mono HO_2.out (fun _ hk => ⟨hk.1.1, ⟨hk.1.2.1, ⟨hk.2, hk.1.2.2⟩⟩⟩)⟩, ⟨by (with_reducible repeat (first | apply Kd.R_alloc | apply Kd.R_drewN | apply Kd.R_drew)); exact HO_7.out⟩, ⟨by (with_reducible repeat (first | apply Kd.R_alloc | apply Kd.R_drewN | apply Kd.R_drew)); exact HO270.out⟩, ⟨by (with_reducible repeat (first | apply Kd.R_alloc | apply Kd.R_drewN | apply Kd.R_drew)); exact HO_17.out⟩, ⟨by repeat (first | (with_reducible first | exact HB.out | apply below_alloc | apply pw_below_drewN | apply below_drew1) | exact HB.out)⟩⟩
         ·
          rw [if_neg c22] at H
          exact absurd H (by simp)
        ·
         replace c21 := Bool.eq_false_iff.mpr c21
         subst c21
         have H1 : (if a0 = 2 then (if a0 = 3 then (if x8_1.length < 140737488355328 then (q10z.l0 k1 a0 l1 l2 t259 (x8_1 ++ [!false]) t259 (t259.length : Int) (wrap64 (x19_1 + 1))) else (none)) else (if x8_1.length < 140737488355328 then (q10z.l0 k1 a0 l1 l2 t259 (x8_1 ++ [false]) t259 (t259.length : Int) (wrap64 (x19_1 + 1))) else (none))) else (if a0 = 3 then (if x8_1.length < 140737488355328 then (q10z.l0 k1 a0 l1 l2 t259 (x8_1 ++ [!false]) t259 (t259.length : Int) (wrap64 (x19_1 + 1))) else (none)) else (if x8_1.length < 140737488355328 then (q10z.l0 k1 a0 l1 l2 t259 (x8_1 ++ [false]) t259 (t259.length : Int) (wrap64 (x19_1 + 1))) else (none)))) = some r := by rw [if_neg (show ¬ (false = true) by decide)] at H; exact H
         clear H
         have H := H1
         clear H1
         by_cases c26 : a0 = 2
         ·
          rw [if_pos c26] at H
          have c26b0 : (a0 == 2) = true := beq_iff_eq.mpr c26
          have c26b1 : (a0 != 2) = false := bne_eq_false_iff_eq.mpr c26
          clear c26
          by_cases c27 : a0 = 3
          ·
           rw [if_pos c27] at H
           have c27b0 : (a0 == 3) = true := beq_iff_eq.mpr c27
           have c27b1 : (a0 != 3) = false := bne_eq_false_iff_eq.mpr c27
           clear c27
           by_cases c28 : x8_1.length < 140737488355328
           ·
            rw [if_pos c28] at H
            have LMc28 := Aside0.mk c28
            clear c28
            obtain ⟨y271, hy271⟩ : ∃ y_ : List Bool, y_ = (x8_1 ++ [!false]) := ⟨_, rfl⟩
            replace H : (q10z.l0 k1 a0 l1 l2 t259 y271 t259 (t259.length : Int) (wrap64 (x19_1 + 1))) = some r := by first | (rw [hy271]; with_reducible exact H) | (have H2_ := (Option.bind_some _ _).symm.trans H; rw [hy271]; with_reducible exact H2_) | (have H2_ := (Option.bind_some _ _).symm.trans H; with_reducible exact H2_) | with_reducible exact H | (rw [hy271]; exact H) | exact H
            have Ny271 := Aside0.mk hy271
            clear hy271
            have H' := Aside0.mk H
            clear H
            have p262 : 0 ≤ (x19_1 : Int) := of_decide_eq_true (by first | (with_reducible assumption) | assumption)
            have q262 : x19_1 < (t259.length : Int) := of_decide_eq_true (by first | (with_reducible assumption) | assumption)
            obtain ⟨ad262, e262, hx262_0⟩ := Kd.at_int (Kd.R_reads' HO_17.out).2.2 x19_1 p262 q262
            cases e262
            replace p262 := eq_true p262
            replace q262 := eq_true q262
            go_wp2_with (first | ((with_reducible refine gate_callee (f := 17) rfl ?_); refine goesL_ (some 25) rfl rfl Try.func17 (by kernel_rfl) rfl #[.slice A1 l1.length c1, .int .u32 (rd t259 x19_1)] rfl (by (try simp only [List.map_toArray, List.map_cons, List.map_nil]); first | done | rfl | (simp only [List.length_drop, List.length_take]; rfl)) ?_; (with_reducible refine (q5z.calls k1 _ _ l1 (rd t259 x19_1) false _ ?side1 ?side2 A13.out).mono ?_); (case side1 => repeat (first | exact (Kd.V_reads' HO_1.out).2.2 | (with_reducible refine Kd.C_alloc ?_ _) | (with_reducible refine Kd.C_drewN ?_ _) | (with_reducible refine Kd.C_drew ?_))); (case side2 => exact (Kd.V_reads' HO_1.out).2.1); rintro e w29 ⟨rfl, hb⟩; refine ⟨_, rfl, ?_⟩; have n0_ := Aside0.mk (Kd.V_below (by (with_reducible repeat (first | apply Kd.V_alloc | apply Kd.V_drewN | apply Kd.V_drew)); exact HO_1.out) hb); have n1_ := Aside0.mk (Kd.V_below (by (with_reducible repeat (first | apply Kd.V_alloc | apply Kd.V_drewN | apply Kd.V_drew)); exact HO_2.out) hb); have n2_ := Aside0.mk (Kd.R_below (by (with_reducible repeat (first | apply Kd.R_alloc | apply Kd.R_drewN | apply Kd.R_drew)); exact HO_7.out) hb); have n3_ := Aside0.mk (Kd.R_below (by (with_reducible repeat (first | apply Kd.R_alloc | apply Kd.R_drewN | apply Kd.R_drew)); exact HO_8.out) hb); have n4_ := Aside0.mk (Kd.R_below (by (with_reducible repeat (first | apply Kd.R_alloc | apply Kd.R_drewN | apply Kd.R_drew)); exact HO_17.out) hb); have n5_ := Aside0.mk (below_step (by repeat (first | (with_reducible first | exact HB.out | apply below_alloc | apply pw_below_drewN | apply below_drew1) | exact HB.out)) hb); clear HO_1; clear HO_2; clear HO_7; clear HO_8; clear HO_17; clear HB; have HO_1 := n0_; have HO_2 := n1_; have HO_7 := n2_; have HO_8 := n3_; have HO_17 := n4_; have HB := n5_; clear n0_ n1_ n2_ n3_ n4_ n5_; (try clear hb); (try clear hb2); (try clear hk); (try clear hi)) | ((with_reducible refine gate_callee (f := 17) rfl ?_); refine goesL_ (some 28) rfl rfl Try.func17 (by kernel_rfl) rfl #[.slice A2 l2.length c2, .int .u32 (rd t259 x19_1)] rfl (by (try simp only [List.map_toArray, List.map_cons, List.map_nil]); first | done | rfl | (simp only [List.length_drop, List.length_take]; rfl)) ?_; (with_reducible refine (q5z.calls k1 _ _ l2 (rd t259 x19_1) false _ ?side1 ?side2 A14.out).mono ?_); (case side1 => repeat (first | exact (Kd.V_reads' HO_2.out).2.2 | (with_reducible refine Kd.C_alloc ?_ _) | (with_reducible refine Kd.C_drewN ?_ _) | (with_reducible refine Kd.C_drew ?_))); (case side2 => exact (Kd.V_reads' HO_2.out).2.1); rintro e w30 ⟨rfl, hb⟩; refine ⟨_, rfl, ?_⟩; have n0_ := Aside0.mk (Kd.V_below (by (with_reducible repeat (first | apply Kd.V_alloc | apply Kd.V_drewN | apply Kd.V_drew)); exact HO_1.out) hb); have n1_ := Aside0.mk (Kd.V_below (by (with_reducible repeat (first | apply Kd.V_alloc | apply Kd.V_drewN | apply Kd.V_drew)); exact HO_2.out) hb); have n2_ := Aside0.mk (Kd.R_below (by (with_reducible repeat (first | apply Kd.R_alloc | apply Kd.R_drewN | apply Kd.R_drew)); exact HO_7.out) hb); have n3_ := Aside0.mk (Kd.R_below (by (with_reducible repeat (first | apply Kd.R_alloc | apply Kd.R_drewN | apply Kd.R_drew)); exact HO_8.out) hb); have n4_ := Aside0.mk (Kd.R_below (by (with_reducible repeat (first | apply Kd.R_alloc | apply Kd.R_drewN | apply Kd.R_drew)); exact HO_17.out) hb); have n5_ := Aside0.mk (below_step (by repeat (first | (with_reducible first | exact HB.out | apply below_alloc | apply pw_below_drewN | apply below_drew1) | exact HB.out)) hb); clear HO_1; clear HO_2; clear HO_7; clear HO_8; clear HO_17; clear HB; have HO_1 := n0_; have HO_2 := n1_; have HO_7 := n2_; have HO_8 := n3_; have HO_17 := n4_; have HB := n5_; clear n0_ n1_ n2_ n3_ n4_ n5_; (try clear hb); (try clear hb2); (try clear hk); (try clear hi)) | ((with_reducible refine gate_builtin (b := .append) (xs := #[.tmp 29, .tmp 56]) rfl ?_); at_builtin; refine Kd.R_append Kd.bool (w0 := w) w.heap.size rfl (.tmp 29) (.tmp 56) 48 4 (.bool false) 1 rfl Try.underlying48 info4 rfl (by decide) (by omega) u8 x8_1 (!false) [.bool (!false)] (fun k_ => (w.heap.size ≤ k_)) (fun _ => False) rfl rfl ?aP (fun _ hk => hk.elim) ?aF ?aO ?aB ?aS ?aL ?_; (case aP => exact rfl); (case aB => exact (by repeat (first | (with_reducible first | exact HB.out | apply below_alloc | apply pw_below_drewN | apply below_drew1) | exact HB.out))); (case aF => exact (fun k_ hk => (Nat.le_trans (below_size (by repeat (first | (with_reducible first | exact HB.out | apply below_alloc | apply pw_below_drewN | apply below_drew1) | exact HB.out))) hk))); (case aO => exact (by (with_reducible repeat (first | apply Kd.R_alloc | apply Kd.R_drewN | apply Kd.R_drew)); exact HO_8.out)); (case aS => exact (below_size (by repeat (first | (with_reducible first | exact HB.out | apply below_alloc | apply pw_below_drewN | apply below_drew1) | exact HB.out)))); (case aL => have := LMc28.out; omega); intro v272 w31 ho hb hg hat; rw [← Ny271.out] at ho; have n0_ := Aside0.mk (Kd.V_afterv (ok := (fun k_ => ((P1_ k_ ∨ P2_ k_) ∨ w.heap.size ≤ k_) ∧ some k_ ≠ (.slice (some ad262) t259.length co9 : Value).ownBlock ∧ some k_ ≠ (.slice (some ad262) t259.length co9 : Value).ownBlock)) (by (with_reducible repeat (first | apply Kd.V_alloc | apply Kd.V_drewN | apply Kd.V_drew)); exact Kd.V_mono HO_1.out (fun _ hk => ⟨⟨hk.1, ⟨hk.2.1, hk.2.2.2⟩⟩, hk.2.2.1⟩)) hg hat); have n1_ := Aside0.mk (Kd.V_afterv (ok := (fun k_ => ((P1_ k_ ∨ P2_ k_) ∨ w.heap.size ≤ k_) ∧ some k_ ≠ (.slice (some ad262) t259.length co9 : Value).ownBlock ∧ some k_ ≠ (.slice (some ad262) t259.length co9 : Value).ownBlock)) (by (with_reducible repeat (first | apply Kd.V_alloc | apply Kd.V_drewN | apply Kd.V_drew)); exact Kd.V_mono HO_2.out (fun _ hk => ⟨⟨hk.1, ⟨hk.2.1, hk.2.2.2⟩⟩, hk.2.2.1⟩)) hg hat); have n2_ := Aside0.mk (Kd.R_over' (by (with_reducible repeat (first | apply Kd.R_alloc | apply Kd.R_drewN | apply Kd.R_drew)); exact HO_7.out) (Kd.R_typed (by (with_reducible repeat (first | apply Kd.R_alloc | apply Kd.R_drewN | apply Kd.R_drew)); exact HO_8.out)) (by decide) hg); have n3_ := Aside0.mk (Kd.R_over' (by (with_reducible repeat (first | apply Kd.R_alloc | apply Kd.R_drewN | apply Kd.R_drew)); exact HO_17.out) (Kd.R_typed (by (with_reducible repeat (first | apply Kd.R_alloc | apply Kd.R_drewN | apply Kd.R_drew)); exact HO_8.out)) (by decide) hg); have n4_ := Aside0.mk (hb); have n5_ := Aside0.mk (ho); clear HO_1; clear HO_2; clear HO_7; clear HO_17; clear HB; clear HO_8; have HO_1 := n0_; have HO_2 := n1_; have HO_7 := n2_; have HO_17 := n3_; have HB := n4_; have HO273 := n5_; clear n0_ n1_ n2_ n3_ n4_ n5_; clear ho hb hg hat))
            go_roundg k1
            case measure => have := HK1.out; omega
            case rel => exact ⟨(y271), (wrap64 (x19_1 + 1)), (by first | rfl | (simp; done) | (simp [*]; done)), H', ⟨by have := HK1.out; omega⟩, ⟨by (with_reducible repeat (first | apply Kd.V_alloc | apply Kd.V_drewN | apply Kd.V_drew)); exact Kd.V_mono HO_1.out (fun _ hk => ⟨hk.1.1, ⟨hk.1.2.1, ⟨hk.2, hk.1.2.2⟩⟩⟩)⟩, ⟨by (with_reducible repeat (first | apply Kd.V_alloc | apply Kd.V_drewN | apply Kd.V_drew)); exact Kd.V_mono HO_2.out (fun _ hk => ⟨hk.1.1, ⟨hk.1.2.1, ⟨hk.2, hk.1.2.2⟩⟩⟩)⟩, ⟨by (with_reducible repeat (first | apply Kd.R_alloc | apply Kd.R_drewN | apply Kd.R_drew)); exact HO_7.out⟩, ⟨by (with_reducible repeat (first | apply Kd.R_alloc | apply Kd.R_drewN | apply Kd.R_drew)); exact HO273.out⟩, ⟨by (with_reducible repeat (first | apply Kd.R_alloc | apply Kd.R_drewN | apply Kd.R_drew)); exact HO_17.out⟩, ⟨by repeat (first | (with_reducible first | exact HB.out | apply below_alloc | apply pw_below_drewN | apply below_drew1) | exact HB.out)⟩⟩
           ·
            rw [if_neg c28] at H
            exact absurd H (by simp)
          ·
           rw [if_neg c27] at H
           have c27b0 : (a0 == 3) = false := beq_eq_false_iff_ne.mpr c27
           have c27b1 : (a0 != 3) = true := bne_iff_ne.mpr c27
           by_cases c32 : x8_1.length < 140737488355328
           ·
            rw [if_pos c32] at H
            have LMc32 := Aside0.mk c32
            clear c32
            obtain ⟨y274, hy274⟩ : ∃ y_ : List Bool, y_ = (x8_1 ++ [false]) := ⟨_, rfl⟩
            replace H : (q10z.l0 k1 a0 l1 l2 t259 y274 t259 (t259.length : Int) (wrap64 (x19_1 + 1))) = some r := by first | (rw [hy274]; with_reducible exact H) | (have H2_ := (Option.bind_some _ _).symm.trans H; rw [hy274]; with_reducible exact H2_) | (have H2_ := (Option.bind_some _ _).symm.trans H; with_reducible exact H2_) | with_reducible exact H | (rw [hy274]; exact H) | exact H
            have Ny274 := Aside0.mk hy274
            clear hy274
            have H' := Aside0.mk H
            clear H
            have p262 : 0 ≤ (x19_1 : Int) := of_decide_eq_true (by first | (with_reducible assumption) | assumption)
            have q262 : x19_1 < (t259.length : Int) := of_decide_eq_true (by first | (with_reducible assumption) | assumption)
            obtain ⟨ad262, e262, hx262_0⟩ := Kd.at_int (Kd.R_reads' HO_17.out).2.2 x19_1 p262 q262
            cases e262
            replace p262 := eq_true p262
            replace q262 := eq_true q262
            go_wp2_with (first | ((with_reducible refine gate_callee (f := 17) rfl ?_); refine goesL_ (some 25) rfl rfl Try.func17 (by kernel_rfl) rfl #[.slice A1 l1.length c1, .int .u32 (rd t259 x19_1)] rfl (by (try simp only [List.map_toArray, List.map_cons, List.map_nil]); first | done | rfl | (simp only [List.length_drop, List.length_take]; rfl)) ?_; (with_reducible refine (q5z.calls k1 _ _ l1 (rd t259 x19_1) false _ ?side1 ?side2 A13.out).mono ?_); (case side1 => repeat (first | exact (Kd.V_reads' HO_1.out).2.2 | (with_reducible refine Kd.C_alloc ?_ _) | (with_reducible refine Kd.C_drewN ?_ _) | (with_reducible refine Kd.C_drew ?_))); (case side2 => exact (Kd.V_reads' HO_1.out).2.1); rintro e w33 ⟨rfl, hb⟩; refine ⟨_, rfl, ?_⟩; have n0_ := Aside0.mk (Kd.V_below (by (with_reducible repeat (first | apply Kd.V_alloc | apply Kd.V_drewN | apply Kd.V_drew)); exact HO_1.out) hb); have n1_ := Aside0.mk (Kd.V_below (by (with_reducible repeat (first | apply Kd.V_alloc | apply Kd.V_drewN | apply Kd.V_drew)); exact HO_2.out) hb); have n2_ := Aside0.mk (Kd.R_below (by (with_reducible repeat (first | apply Kd.R_alloc | apply Kd.R_drewN | apply Kd.R_drew)); exact HO_7.out) hb); have n3_ := Aside0.mk (Kd.R_below (by (with_reducible repeat (first | apply Kd.R_alloc | apply Kd.R_drewN | apply Kd.R_drew)); exact HO_8.out) hb); have n4_ := Aside0.mk (Kd.R_below (by (with_reducible repeat (first | apply Kd.R_alloc | apply Kd.R_drewN | apply Kd.R_drew)); exact HO_17.out) hb); have n5_ := Aside0.mk (below_step (by repeat (first | (with_reducible first | exact HB.out | apply below_alloc | apply pw_below_drewN | apply below_drew1) | exact HB.out)) hb); clear HO_1; clear HO_2; clear HO_7; clear HO_8; clear HO_17; clear HB; have HO_1 := n0_; have HO_2 := n1_; have HO_7 := n2_; have HO_8 := n3_; have HO_17 := n4_; have HB := n5_; clear n0_ n1_ n2_ n3_ n4_ n5_; (try clear hb); (try clear hb2); (try clear hk); (try clear hi)) | ((with_reducible refine gate_callee (f := 17) rfl ?_); refine goesL_ (some 28) rfl rfl Try.func17 (by kernel_rfl) rfl #[.slice A2 l2.length c2, .int .u32 (rd t259 x19_1)] rfl (by (try simp only [List.map_toArray, List.map_cons, List.map_nil]); first | done | rfl | (simp only [List.length_drop, List.length_take]; rfl)) ?_; (with_reducible refine (q5z.calls k1 _ _ l2 (rd t259 x19_1) false _ ?side1 ?side2 A14.out).mono ?_); (case side1 => repeat (first | exact (Kd.V_reads' HO_2.out).2.2 | (with_reducible refine Kd.C_alloc ?_ _) | (with_reducible refine Kd.C_drewN ?_ _) | (with_reducible refine Kd.C_drew ?_))); (case side2 => exact (Kd.V_reads' HO_2.out).2.1); rintro e w34 ⟨rfl, hb⟩; refine ⟨_, rfl, ?_⟩; have n0_ := Aside0.mk (Kd.V_below (by (with_reducible repeat (first | apply Kd.V_alloc | apply Kd.V_drewN | apply Kd.V_drew)); exact HO_1.out) hb); have n1_ := Aside0.mk (Kd.V_below (by (with_reducible repeat (first | apply Kd.V_alloc | apply Kd.V_drewN | apply Kd.V_drew)); exact HO_2.out) hb); have n2_ := Aside0.mk (Kd.R_below (by (with_reducible repeat (first | apply Kd.R_alloc | apply Kd.R_drewN | apply Kd.R_drew)); exact HO_7.out) hb); have n3_ := Aside0.mk (Kd.R_below (by (with_reducible repeat (first | apply Kd.R_alloc | apply Kd.R_drewN | apply Kd.R_drew)); exact HO_8.out) hb); have n4_ := Aside0.mk (Kd.R_below (by (with_reducible repeat (first | apply Kd.R_alloc | apply Kd.R_drewN | apply Kd.R_drew)); exact HO_17.out) hb); have n5_ := Aside0.mk (below_step (by repeat (first | (with_reducible first | exact HB.out | apply below_alloc | apply pw_below_drewN | apply below_drew1) | exact HB.out)) hb); clear HO_1; clear HO_2; clear HO_7; clear HO_8; clear HO_17; clear HB; have HO_1 := n0_; have HO_2 := n1_; have HO_7 := n2_; have HO_8 := n3_; have HO_17 := n4_; have HB := n5_; clear n0_ n1_ n2_ n3_ n4_ n5_; (try clear hb); (try clear hb2); (try clear hk); (try clear hi)) | ((with_reducible refine gate_builtin (b := .append) (xs := #[.tmp 29, .tmp 56]) rfl ?_); at_builtin; refine Kd.R_append Kd.bool (w0 := w) w.heap.size rfl (.tmp 29) (.tmp 56) 48 4 (.bool false) 1 rfl Try.underlying48 info4 rfl (by decide) (by omega) u8 x8_1 false [.bool false] (fun k_ => (w.heap.size ≤ k_)) (fun _ => False) rfl rfl ?aP (fun _ hk => hk.elim) ?aF ?aO ?aB ?aS ?aL ?_; (case aP => exact rfl); (case aB => exact (by repeat (first | (with_reducible first | exact HB.out | apply below_alloc | apply pw_below_drewN | apply below_drew1) | exact HB.out))); (case aF => exact (fun k_ hk => (Nat.le_trans (below_size (by repeat (first | (with_reducible first | exact HB.out | apply below_alloc | apply pw_below_drewN | apply below_drew1) | exact HB.out))) hk))); (case aO => exact (by (with_reducible repeat (first | apply Kd.R_alloc | apply Kd.R_drewN | apply Kd.R_drew)); exact HO_8.out)); (case aS => exact (below_size (by repeat (first | (with_reducible first | exact HB.out | apply below_alloc | apply pw_below_drewN | apply below_drew1) | exact HB.out)))); (case aL => have := LMc32.out; omega); intro v275 w35 ho hb hg hat; rw [← Ny274.out] at ho; have n0_ := Aside0.mk (Kd.V_afterv (ok := (fun k_ => ((P1_ k_ ∨ P2_ k_) ∨ w.heap.size ≤ k_) ∧ some k_ ≠ (.slice (some ad262) t259.length co9 : Value).ownBlock ∧ some k_ ≠ (.slice (some ad262) t259.length co9 : Value).ownBlock)) (by (with_reducible repeat (first | apply Kd.V_alloc | apply Kd.V_drewN | apply Kd.V_drew)); exact Kd.V_mono HO_1.out (fun _ hk => ⟨⟨hk.1, ⟨hk.2.1, hk.2.2.2⟩⟩, hk.2.2.1⟩)) hg hat); have n1_ := Aside0.mk (Kd.V_afterv (ok := (fun k_ => ((P1_ k_ ∨ P2_ k_) ∨ w.heap.size ≤ k_) ∧ some k_ ≠ (.slice (some ad262) t259.length co9 : Value).ownBlock ∧ some k_ ≠ (.slice (some ad262) t259.length co9 : Value).ownBlock)) (by (with_reducible repeat (first | apply Kd.V_alloc | apply Kd.V_drewN | apply Kd.V_drew)); exact Kd.V_mono HO_2.out (fun _ hk => ⟨⟨hk.1, ⟨hk.2.1, hk.2.2.2⟩⟩, hk.2.2.1⟩)) hg hat); have n2_ := Aside0.mk (Kd.R_over' (by (with_reducible repeat (first | apply Kd.R_alloc | apply Kd.R_drewN | apply Kd.R_drew)); exact HO_7.out) (Kd.R_typed (by (with_reducible repeat (first | apply Kd.R_alloc | apply Kd.R_drewN | apply Kd.R_drew)); exact HO_8.out)) (by decide) hg); have n3_ := Aside0.mk (Kd.R_over' (by (with_reducible repeat (first | apply Kd.R_alloc | apply Kd.R_drewN | apply Kd.R_drew)); exact HO_17.out) (Kd.R_typed (by (with_reducible repeat (first | apply Kd.R_alloc | apply Kd.R_drewN | apply Kd.R_drew)); exact HO_8.out)) (by decide) hg); have n4_ := Aside0.mk (hb); have n5_ := Aside0.mk (ho); clear HO_1; clear HO_2; clear HO_7; clear HO_17; clear HB; clear HO_8; have HO_1 := n0_; have HO_2 := n1_; have HO_7 := n2_; have HO_17 := n3_; have HB := n4_; have HO276 := n5_; clear n0_ n1_ n2_ n3_ n4_ n5_; clear ho hb hg hat))
            go_roundg k1
            case measure => have := HK1.out; omega
            case rel => exact ⟨(y274), (wrap64 (x19_1 + 1)), (by first | rfl | (simp; done) | (simp [*]; done)), H', ⟨by have := HK1.out; omega⟩, ⟨by (with_reducible repeat (first | apply Kd.V_alloc | apply Kd.V_drewN | apply Kd.V_drew)); exact Kd.V_mono HO_1.out (fun _ hk => ⟨hk.1.1, ⟨hk.1.2.1, ⟨hk.2, hk.1.2.2⟩⟩⟩)⟩, ⟨by (with_reducible repeat (first | apply Kd.V_alloc | apply Kd.V_drewN | apply Kd.V_drew)); exact Kd.V_mono HO_2.out (fun _ hk => ⟨hk.1.1, ⟨hk.1.2.1, ⟨hk.2, hk.1.2.2⟩⟩⟩)⟩, ⟨by (with_reducible repeat (first | apply Kd.R_alloc | apply Kd.R_drewN | apply Kd.R_drew)); exact HO_7.out⟩, ⟨by (with_reducible repeat (first | apply Kd.R_alloc | apply Kd.R_drewN | apply Kd.R_drew)); exact HO276.out⟩, ⟨by (with_reducible repeat (first | apply Kd.R_alloc | apply Kd.R_drewN | apply Kd.R_drew)); exact HO_17.out⟩, ⟨by repeat (first | (with_reducible first | exact HB.out | apply below_alloc | apply pw_below_drewN | apply below_drew1) | exact HB.out)⟩⟩
           ·
            rw [if_neg c32] at H
            exact absurd H (by simp)
         ·
          rw [if_neg c26] at H
          have c26b0 : (a0 == 2) = false := beq_eq_false_iff_ne.mpr c26
          have c26b1 : (a0 != 2) = true := bne_iff_ne.mpr c26
          by_cases c36 : a0 = 3
          ·
           rw [if_pos c36] at H
           have c36b0 : (a0 == 3) = true := beq_iff_eq.mpr c36
           have c36b1 : (a0 != 3) = false := bne_eq_false_iff_eq.mpr c36
           clear c36
           by_cases c37 : x8_1.length < 140737488355328
           ·
            rw [if_pos c37] at H
            have LMc37 := Aside0.mk c37
            clear c37
            obtain ⟨y277, hy277⟩ : ∃ y_ : List Bool, y_ = (x8_1 ++ [!false]) := ⟨_, rfl⟩
            replace H : (q10z.l0 k1 a0 l1 l2 t259 y277 t259 (t259.length : Int) (wrap64 (x19_1 + 1))) = some r := by first | (rw [hy277]; with_reducible exact H) | (have H2_ := (Option.bind_some _ _).symm.trans H; rw [hy277]; with_reducible exact H2_) | (have H2_ := (Option.bind_some _ _).symm.trans H; with_reducible exact H2_) | with_reducible exact H | (rw [hy277]; exact H) | exact H
            have Ny277 := Aside0.mk hy277
            clear hy277
            have H' := Aside0.mk H
            clear H
            have p262 : 0 ≤ (x19_1 : Int) := of_decide_eq_true (by first | (with_reducible assumption) | assumption)
            have q262 : x19_1 < (t259.length : Int) := of_decide_eq_true (by first | (with_reducible assumption) | assumption)
            obtain ⟨ad262, e262, hx262_0⟩ := Kd.at_int (Kd.R_reads' HO_17.out).2.2 x19_1 p262 q262
            cases e262
            replace p262 := eq_true p262
            replace q262 := eq_true q262
            go_wp2_with (first | ((with_reducible refine gate_callee (f := 17) rfl ?_); refine goesL_ (some 25) rfl rfl Try.func17 (by kernel_rfl) rfl #[.slice A1 l1.length c1, .int .u32 (rd t259 x19_1)] rfl (by (try simp only [List.map_toArray, List.map_cons, List.map_nil]); first | done | rfl | (simp only [List.length_drop, List.length_take]; rfl)) ?_; (with_reducible refine (q5z.calls k1 _ _ l1 (rd t259 x19_1) false _ ?side1 ?side2 A13.out).mono ?_); (case side1 => repeat (first | exact (Kd.V_reads' HO_1.out).2.2 | (with_reducible refine Kd.C_alloc ?_ _) | (with_reducible refine Kd.C_drewN ?_ _) | (with_reducible refine Kd.C_drew ?_))); (case side2 => exact (Kd.V_reads' HO_1.out).2.1); rintro e w38 ⟨rfl, hb⟩; refine ⟨_, rfl, ?_⟩; have n0_ := Aside0.mk (Kd.V_below (by (with_reducible repeat (first | apply Kd.V_alloc | apply Kd.V_drewN | apply Kd.V_drew)); exact HO_1.out) hb); have n1_ := Aside0.mk (Kd.V_below (by (with_reducible repeat (first | apply Kd.V_alloc | apply Kd.V_drewN | apply Kd.V_drew)); exact HO_2.out) hb); have n2_ := Aside0.mk (Kd.R_below (by (with_reducible repeat (first | apply Kd.R_alloc | apply Kd.R_drewN | apply Kd.R_drew)); exact HO_7.out) hb); have n3_ := Aside0.mk (Kd.R_below (by (with_reducible repeat (first | apply Kd.R_alloc | apply Kd.R_drewN | apply Kd.R_drew)); exact HO_8.out) hb); have n4_ := Aside0.mk (Kd.R_below (by (with_reducible repeat (first | apply Kd.R_alloc | apply Kd.R_drewN | apply Kd.R_drew)); exact HO_17.out) hb); have n5_ := Aside0.mk (below_step (by repeat (first | (with_reducible first | exact HB.out | apply below_alloc | apply pw_below_drewN | apply below_drew1) | exact HB.out)) hb); clear HO_1; clear HO_2; clear HO_7; clear HO_8; clear HO_17; clear HB; have HO_1 := n0_; have HO_2 := n1_; have HO_7 := n2_; have HO_8 := n3_; have HO_17 := n4_; have HB := n5_; clear n0_ n1_ n2_ n3_ n4_ n5_; (try clear hb); (try clear hb2); (try clear hk); (try clear hi)) | ((with_reducible refine gate_callee (f := 17) rfl ?_); refine goesL_ (some 28) rfl rfl Try.func17 (by kernel_rfl) rfl #[.slice A2 l2.length c2, .int .u32 (rd t259 x19_1)] rfl (by (try simp only [List.map_toArray, List.map_cons, List.map_nil]); first | done | rfl | (simp only [List.length_drop, List.length_take]; rfl)) ?_; (with_reducible refine (q5z.calls k1 _ _ l2 (rd t259 x19_1) false _ ?side1 ?side2 A14.out).mono ?_); (case side1 => repeat (first | exact (Kd.V_reads' HO_2.out).2.2 | (with_reducible refine Kd.C_alloc ?_ _) | (with_reducible refine Kd.C_drewN ?_ _) | (with_reducible refine Kd.C_drew ?_))); (case side2 => exact (Kd.V_reads' HO_2.out).2.1); rintro e w39 ⟨rfl, hb⟩; refine ⟨_, rfl, ?_⟩; have n0_ := Aside0.mk (Kd.V_below (by (with_reducible repeat (first | apply Kd.V_alloc | apply Kd.V_drewN | apply Kd.V_drew)); exact HO_1.out) hb); have n1_ := Aside0.mk (Kd.V_below (by (with_reducible repeat (first | apply Kd.V_alloc | apply Kd.V_drewN | apply Kd.V_drew)); exact HO_2.out) hb); have n2_ := Aside0.mk (Kd.R_below (by (with_reducible repeat (first | apply Kd.R_alloc | apply Kd.R_drewN | apply Kd.R_drew)); exact HO_7.out) hb); have n3_ := Aside0.mk (Kd.R_below (by (with_reducible repeat (first | apply Kd.R_alloc | apply Kd.R_drewN | apply Kd.R_drew)); exact HO_8.out) hb); have n4_ := Aside0.mk (Kd.R_below (by (with_reducible repeat (first | apply Kd.R_alloc | apply Kd.R_drewN | apply Kd.R_drew)); exact HO_17.out) hb); have n5_ := Aside0.mk (below_step (by repeat (first | (with_reducible first | exact HB.out | apply below_alloc | apply pw_below_drewN | apply below_drew1) | exact HB.out)) hb); clear HO_1; clear HO_2; clear HO_7; clear HO_8; clear HO_17; clear HB; have HO_1 := n0_; have HO_2 := n1_; have HO_7 := n2_; have HO_8 := n3_; have HO_17 := n4_; have HB := n5_; clear n0_ n1_ n2_ n3_ n4_ n5_; (try clear hb); (try clear hb2); (try clear hk); (try clear hi)) | ((with_reducible refine gate_builtin (b := .append) (xs := #[.tmp 29, .tmp 56]) rfl ?_); at_builtin; refine Kd.R_append Kd.bool (w0 := w) w.heap.size rfl (.tmp 29) (.tmp 56) 48 4 (.bool false) 1 rfl Try.underlying48 info4 rfl (by decide) (by omega) u8 x8_1 (!false) [.bool (!false)] (fun k_ => (w.heap.size ≤ k_)) (fun _ => False) rfl rfl ?aP (fun _ hk => hk.elim) ?aF ?aO ?aB ?aS ?aL ?_; (case aP => exact rfl); (case aB => exact (by repeat (first | (with_reducible first | exact HB.out | apply below_alloc | apply pw_below_drewN | apply below_drew1) | exact HB.out))); (case aF => exact (fun k_ hk => (Nat.le_trans (below_size (by repeat (first | (with_reducible first | exact HB.out | apply below_alloc | apply pw_below_drewN | apply below_drew1) | exact HB.out))) hk))); (case aO => exact (by (with_reducible repeat (first | apply Kd.R_alloc | apply Kd.R_drewN | apply Kd.R_drew)); exact HO_8.out)); (case aS => exact (below_size (by repeat (first | (with_reducible first | exact HB.out | apply below_alloc | apply pw_below_drewN | apply below_drew1) | exact HB.out)))); (case aL => have := LMc37.out; omega); intro v278 w40 ho hb hg hat; rw [← Ny277.out] at ho; have n0_ := Aside0.mk (Kd.V_afterv (ok := (fun k_ => ((P1_ k_ ∨ P2_ k_) ∨ w.heap.size ≤ k_) ∧ some k_ ≠ (.slice (some ad262) t259.length co9 : Value).ownBlock ∧ some k_ ≠ (.slice (some ad262) t259.length co9 : Value).ownBlock)) (by (with_reducible repeat (first | apply Kd.V_alloc | apply Kd.V_drewN | apply Kd.V_drew)); exact Kd.V_mono HO_1.out (fun _ hk => ⟨⟨hk.1, ⟨hk.2.1, hk.2.2.2⟩⟩, hk.2.2.1⟩)) hg hat); have n1_ := Aside0.mk (Kd.V_afterv (ok := (fun k_ => ((P1_ k_ ∨ P2_ k_) ∨ w.heap.size ≤ k_) ∧ some k_ ≠ (.slice (some ad262) t259.length co9 : Value).ownBlock ∧ some k_ ≠ (.slice (some ad262) t259.length co9 : Value).ownBlock)) (by (with_reducible repeat (first | apply Kd.V_alloc | apply Kd.V_drewN | apply Kd.V_drew)); exact Kd.V_mono HO_2.out (fun _ hk => ⟨⟨hk.1, ⟨hk.2.1, hk.2.2.2⟩⟩, hk.2.2.1⟩)) hg hat); have n2_ := Aside0.mk (Kd.R_over' (by (with_reducible repeat (first | apply Kd.R_alloc | apply Kd.R_drewN | apply Kd.R_drew)); exact HO_7.out) (Kd.R_typed (by (with_reducible repeat (first | apply Kd.R_alloc | apply Kd.R_drewN | apply Kd.R_drew)); exact HO_8.out)) (by decide) hg); have n3_ := Aside0.mk (Kd.R_over' (by (with_reducible repeat (first | apply Kd.R_alloc | apply Kd.R_drewN | apply Kd.R_drew)); exact HO_17.out) (Kd.R_typed (by (with_reducible repeat (first | apply Kd.R_alloc | apply Kd.R_drewN | apply Kd.R_drew)); exact HO_8.out)) (by decide) hg); have n4_ := Aside0.mk (hb); have n5_ := Aside0.mk (ho); clear HO_1; clear HO_2; clear HO_7; clear HO_17; clear HB; clear HO_8; have HO_1 := n0_; have HO_2 := n1_; have HO_7 := n2_; have HO_17 := n3_; have HB := n4_; have HO279 := n5_; clear n0_ n1_ n2_ n3_ n4_ n5_; clear ho hb hg hat))
            go_roundg k1
            case measure => have := HK1.out; omega
            case rel => exact ⟨(y277), (wrap64 (x19_1 + 1)), (by first | rfl | (simp; done) | (simp [*]; done)), H', ⟨by have := HK1.out; omega⟩, ⟨by (with_reducible repeat (first | apply Kd.V_alloc | apply Kd.V_drewN | apply Kd.V_drew)); exact Kd.V_mono HO_1.out (fun _ hk => ⟨hk.1.1, ⟨hk.1.2.1, ⟨hk.2, hk.1.2.2⟩⟩⟩)⟩, ⟨by (with_reducible repeat (first | apply Kd.V_alloc | apply Kd.V_drewN | apply Kd.V_drew)); exact Kd.V_mono HO_2.out (fun _ hk => ⟨hk.1.1, ⟨hk.1.2.1, ⟨hk.2, hk.1.2.2⟩⟩⟩)⟩, ⟨by (with_reducible repeat (first | apply Kd.R_alloc | apply Kd.R_drewN | apply Kd.R_drew)); exact HO_7.out⟩, ⟨by (with_reducible repeat (first | apply Kd.R_alloc | apply Kd.R_drewN | apply Kd.R_drew)); exact HO279.out⟩, ⟨by (with_reducible repeat (first | apply Kd.R_alloc | apply Kd.R_drewN | apply Kd.R_drew)); exact HO_17.out⟩, ⟨by repeat (first | (with_reducible first | exact HB.out | apply below_alloc | apply pw_below_drewN | apply below_drew1) | exact HB.out)⟩⟩
           ·
            rw [if_neg c37] at H
            exact absurd H (by simp)
          ·
           rw [if_neg c36] at H
           have c36b0 : (a0 == 3) = false := beq_eq_false_iff_ne.mpr c36
           have c36b1 : (a0 != 3) = true := bne_iff_ne.mpr c36
           by_cases c41 : x8_1.length < 140737488355328
           ·
            rw [if_pos c41] at H
            have LMc41 := Aside0.mk c41
            clear c41
            obtain ⟨y280, hy280⟩ : ∃ y_ : List Bool, y_ = (x8_1 ++ [false]) := ⟨_, rfl⟩
            replace H : (q10z.l0 k1 a0 l1 l2 t259 y280 t259 (t259.length : Int) (wrap64 (x19_1 + 1))) = some r := by first | (rw [hy280]; with_reducible exact H) | (have H2_ := (Option.bind_some _ _).symm.trans H; rw [hy280]; with_reducible exact H2_) | (have H2_ := (Option.bind_some _ _).symm.trans H; with_reducible exact H2_) | with_reducible exact H | (rw [hy280]; exact H) | exact H
            have Ny280 := Aside0.mk hy280
            clear hy280
            have H' := Aside0.mk H
            clear H
            have p262 : 0 ≤ (x19_1 : Int) := of_decide_eq_true (by first | (with_reducible assumption) | assumption)
            have q262 : x19_1 < (t259.length : Int) := of_decide_eq_true (by first | (with_reducible assumption) | assumption)
            obtain ⟨ad262, e262, hx262_0⟩ := Kd.at_int (Kd.R_reads' HO_17.out).2.2 x19_1 p262 q262
            cases e262
            replace p262 := eq_true p262
            replace q262 := eq_true q262
            go_wp2_with (first | ((with_reducible refine gate_callee (f := 17) rfl ?_); refine goesL_ (some 25) rfl rfl Try.func17 (by kernel_rfl) rfl #[.slice A1 l1.length c1, .int .u32 (rd t259 x19_1)] rfl (by (try simp only [List.map_toArray, List.map_cons, List.map_nil]); first | done | rfl | (simp only [List.length_drop, List.length_take]; rfl)) ?_; (with_reducible refine (q5z.calls k1 _ _ l1 (rd t259 x19_1) false _ ?side1 ?side2 A13.out).mono ?_); (case side1 => repeat (first | exact (Kd.V_reads' HO_1.out).2.2 | (with_reducible refine Kd.C_alloc ?_ _) | (with_reducible refine Kd.C_drewN ?_ _) | (with_reducible refine Kd.C_drew ?_))); (case side2 => exact (Kd.V_reads' HO_1.out).2.1); rintro e w42 ⟨rfl, hb⟩; refine ⟨_, rfl, ?_⟩; have n0_ := Aside0.mk (Kd.V_below (by (with_reducible repeat (first | apply Kd.V_alloc | apply Kd.V_drewN | apply Kd.V_drew)); exact HO_1.out) hb); have n1_ := Aside0.mk (Kd.V_below (by (with_reducible repeat (first | apply Kd.V_alloc | apply Kd.V_drewN | apply Kd.V_drew)); exact HO_2.out) hb); have n2_ := Aside0.mk (Kd.R_below (by (with_reducible repeat (first | apply Kd.R_alloc | apply Kd.R_drewN | apply Kd.R_drew)); exact HO_7.out) hb); have n3_ := Aside0.mk (Kd.R_below (by (with_reducible repeat (first | apply Kd.R_alloc | apply Kd.R_drewN | apply Kd.R_drew)); exact HO_8.out) hb); have n4_ := Aside0.mk (Kd.R_below (by (with_reducible repeat (first | apply Kd.R_alloc | apply Kd.R_drewN | apply Kd.R_drew)); exact HO_17.out) hb); have n5_ := Aside0.mk (below_step (by repeat (first | (with_reducible first | exact HB.out | apply below_alloc | apply pw_below_drewN | apply below_drew1) | exact HB.out)) hb); clear HO_1; clear HO_2; clear HO_7; clear HO_8; clear HO_17; clear HB; have HO_1 := n0_; have HO_2 := n1_; have HO_7 := n2_; have HO_8 := n3_; have HO_17 := n4_; have HB := n5_; clear n0_ n1_ n2_ n3_ n4_ n5_; (try clear hb); (try clear hb2); (try clear hk); (try clear hi)) | ((with_reducible refine gate_callee (f := 17) rfl ?_); refine goesL_ (some 28) rfl rfl Try.func17 (by kernel_rfl) rfl #[.slice A2 l2.length c2, .int .u32 (rd t259 x19_1)] rfl (by (try simp only [List.map_toArray, List.map_cons, List.map_nil]); first | done | rfl | (simp only [List.length_drop, List.length_take]; rfl)) ?_; (with_reducible refine (q5z.calls k1 _ _ l2 (rd t259 x19_1) false _ ?side1 ?side2 A14.out).mono ?_); (case side1 => repeat (first | exact (Kd.V_reads' HO_2.out).2.2 | (with_reducible refine Kd.C_alloc ?_ _) | (with_reducible refine Kd.C_drewN ?_ _) | (with_reducible refine Kd.C_drew ?_))); (case side2 => exact (Kd.V_reads' HO_2.out).2.1); rintro e w43 ⟨rfl, hb⟩; refine ⟨_, rfl, ?_⟩; have n0_ := Aside0.mk (Kd.V_below (by (with_reducible repeat (first | apply Kd.V_alloc | apply Kd.V_drewN | apply Kd.V_drew)); exact HO_1.out) hb); have n1_ := Aside0.mk (Kd.V_below (by (with_reducible repeat (first | apply Kd.V_alloc | apply Kd.V_drewN | apply Kd.V_drew)); exact HO_2.out) hb); have n2_ := Aside0.mk (Kd.R_below (by (with_reducible repeat (first | apply Kd.R_alloc | apply Kd.R_drewN | apply Kd.R_drew)); exact HO_7.out) hb); have n3_ := Aside0.mk (Kd.R_below (by (with_reducible repeat (first | apply Kd.R_alloc | apply Kd.R_drewN | apply Kd.R_drew)); exact HO_8.out) hb); have n4_ := Aside0.mk (Kd.R_below (by (with_reducible repeat (first | apply Kd.R_alloc | apply Kd.R_drewN | apply Kd.R_drew)); exact HO_17.out) hb); have n5_ := Aside0.mk (below_step (by repeat (first | (with_reducible first | exact HB.out | apply below_alloc | apply pw_below_drewN | apply below_drew1) | exact HB.out)) hb); clear HO_1; clear HO_2; clear HO_7; clear HO_8; clear HO_17; clear HB; have HO_1 := n0_; have HO_2 := n1_; have HO_7 := n2_; have HO_8 := n3_; have HO_17 := n4_; have HB := n5_; clear n0_ n1_ n2_ n3_ n4_ n5_; (try clear hb); (try clear hb2); (try clear hk); (try clear hi)) | ((with_reducible refine gate_builtin (b := .append) (xs := #[.tmp 29, .tmp 56]) rfl ?_); at_builtin; refine Kd.R_append Kd.bool (w0 := w) w.heap.size rfl (.tmp 29) (.tmp 56) 48 4 (.bool false) 1 rfl Try.underlying48 info4 rfl (by decide) (by omega) u8 x8_1 false [.bool false] (fun k_ => (w.heap.size ≤ k_)) (fun _ => False) rfl rfl ?aP (fun _ hk => hk.elim) ?aF ?aO ?aB ?aS ?aL ?_; (case aP => exact rfl); (case aB => exact (by repeat (first | (with_reducible first | exact HB.out | apply below_alloc | apply pw_below_drewN | apply below_drew1) | exact HB.out))); (case aF => exact (fun k_ hk => (Nat.le_trans (below_size (by repeat (first | (with_reducible first | exact HB.out | apply below_alloc | apply pw_below_drewN | apply below_drew1) | exact HB.out))) hk))); (case aO => exact (by (with_reducible repeat (first | apply Kd.R_alloc | apply Kd.R_drewN | apply Kd.R_drew)); exact HO_8.out)); (case aS => exact (below_size (by repeat (first | (with_reducible first | exact HB.out | apply below_alloc | apply pw_below_drewN | apply below_drew1) | exact HB.out)))); (case aL => have := LMc41.out; omega); intro v281 w44 ho hb hg hat; rw [← Ny280.out] at ho; have n0_ := Aside0.mk (Kd.V_afterv (ok := (fun k_ => ((P1_ k_ ∨ P2_ k_) ∨ w.heap.size ≤ k_) ∧ some k_ ≠ (.slice (some ad262) t259.length co9 : Value).ownBlock ∧ some k_ ≠ (.slice (some ad262) t259.length co9 : Value).ownBlock)) (by (with_reducible repeat (first | apply Kd.V_alloc | apply Kd.V_drewN | apply Kd.V_drew)); exact Kd.V_mono HO_1.out (fun _ hk => ⟨⟨hk.1, ⟨hk.2.1, hk.2.2.2⟩⟩, hk.2.2.1⟩)) hg hat); have n1_ := Aside0.mk (Kd.V_afterv (ok := (fun k_ => ((P1_ k_ ∨ P2_ k_) ∨ w.heap.size ≤ k_) ∧ some k_ ≠ (.slice (some ad262) t259.length co9 : Value).ownBlock ∧ some k_ ≠ (.slice (some ad262) t259.length co9 : Value).ownBlock)) (by (with_reducible repeat (first | apply Kd.V_alloc | apply Kd.V_drewN | apply Kd.V_drew)); exact Kd.V_mono HO_2.out (fun _ hk => ⟨⟨hk.1, ⟨hk.2.1, hk.2.2.2⟩⟩, hk.2.2.1⟩)) hg hat); have n2_ := Aside0.mk (Kd.R_over' (by (with_reducible repeat (first | apply Kd.R_alloc | apply Kd.R_drewN | apply Kd.R_drew)); exact HO_7.out) (Kd.R_typed (by (with_reducible repeat (first | apply Kd.R_alloc | apply Kd.R_drewN | apply Kd.R_drew)); exact HO_8.out)) (by decide) hg); have n3_ := Aside0.mk (Kd.R_over' (by (with_reducible repeat (first | apply Kd.R_alloc | apply Kd.R_drewN | apply Kd.R_drew)); exact HO_17.out) (Kd.R_typed (by (with_reducible repeat (first | apply Kd.R_alloc | apply Kd.R_drewN | apply Kd.R_drew)); exact HO_8.out)) (by decide) hg); have n4_ := Aside0.mk (hb); have n5_ := Aside0.mk (ho); clear HO_1; clear HO_2; clear HO_7; clear HO_17; clear HB; clear HO_8; have HO_1 := n0_; have HO_2 := n1_; have HO_7 := n2_; have HO_17 := n3_; have HB := n4_; have HO282 := n5_; clear n0_ n1_ n2_ n3_ n4_ n5_; clear ho hb hg hat))
            go_roundg k1
            case measure => have := HK1.out; omega
            case rel => exact ⟨(y280), (wrap64 (x19_1 + 1)), (by first | rfl | (simp; done) | (simp [*]; done)), H', ⟨by have := HK1.out; omega⟩, ⟨by (with_reducible repeat (first | apply Kd.V_alloc | apply Kd.V_drewN | apply Kd.V_drew)); exact Kd.V_mono HO_1.out (fun _ hk => ⟨hk.1.1, ⟨hk.1.2.1, ⟨hk.2, hk.1.2.2⟩⟩⟩)⟩, ⟨by (with_reducible repeat (first | apply Kd.V_alloc | apply Kd.V_drewN | apply Kd.V_drew)); exact Kd.V_mono HO_2.out (fun _ hk => ⟨hk.1.1, ⟨hk.1.2.1, ⟨hk.2, hk.1.2.2⟩⟩⟩)⟩, ⟨by (with_reducible repeat (first | apply Kd.R_alloc | apply Kd.R_drewN | apply Kd.R_drew)); exact HO_7.out⟩, ⟨by (with_reducible repeat (first | apply Kd.R_alloc | apply Kd.R_drewN | apply Kd.R_drew)); exact HO282.out⟩, ⟨by (with_reducible repeat (first | apply Kd.R_alloc | apply Kd.R_drewN | apply Kd.R_drew)); exact HO_17.out⟩, ⟨by repeat (first | (with_reducible first | exact HB.out | apply below_alloc | apply pw_below_drewN | apply below_drew1) | exact HB.out)⟩⟩
           ·
            rw [if_neg c41] at H
            exact absurd H (by simp)
      ·
       rw [if_neg c15] at H
       have c15b0 : (a0 == 1) = false := beq_eq_false_iff_ne.mpr c15
       have c15b1 : (a0 != 1) = true := bne_iff_ne.mpr c15
       by_cases c45 : a0 = 2
       ·
        rw [if_pos c45] at H
        have c45b0 : (a0 == 2) = true := beq_iff_eq.mpr c45
        have c45b1 : (a0 != 2) = false := bne_eq_false_iff_eq.mpr c45
        clear c45
        by_cases c46 : t263 = true
        ·
         subst c46
         have H1 : (if t264 = true then (if x8_1.length < 140737488355328 then (q10z.l0 k1 a0 l1 l2 t259 (x8_1 ++ [true]) t259 (t259.length : Int) (wrap64 (x19_1 + 1))) else (none)) else (if a0 = 3 then (if x8_1.length < 140737488355328 then (q10z.l0 k1 a0 l1 l2 t259 (x8_1 ++ [!true]) t259 (t259.length : Int) (wrap64 (x19_1 + 1))) else (none)) else (if x8_1.length < 140737488355328 then (q10z.l0 k1 a0 l1 l2 t259 (x8_1 ++ [false]) t259 (t259.length : Int) (wrap64 (x19_1 + 1))) else (none)))) = some r := by rw [if_pos rfl] at H; exact H
         clear H
         have H := H1
         clear H1
         by_cases c47 : t264 = true
         ·
          subst c47
          have H1 : (if x8_1.length < 140737488355328 then (q10z.l0 k1 a0 l1 l2 t259 (x8_1 ++ [true]) t259 (t259.length : Int) (wrap64 (x19_1 + 1))) else (none)) = some r := by rw [if_pos rfl] at H; exact H
          clear H
          have H := H1
          clear H1
          by_cases c48 : x8_1.length < 140737488355328
          ·
           rw [if_pos c48] at H
           have LMc48 := Aside0.mk c48
           clear c48
           obtain ⟨y283, hy283⟩ : ∃ y_ : List Bool, y_ = (x8_1 ++ [true]) := ⟨_, rfl⟩
           replace H : (q10z.l0 k1 a0 l1 l2 t259 y283 t259 (t259.length : Int) (wrap64 (x19_1 + 1))) = some r := by first | (rw [hy283]; with_reducible exact H) | (have H2_ := (Option.bind_some _ _).symm.trans H; rw [hy283]; with_reducible exact H2_) | (have H2_ := (Option.bind_some _ _).symm.trans H; with_reducible exact H2_) | with_reducible exact H | (rw [hy283]; exact H) | exact H
           have Ny283 := Aside0.mk hy283
           clear hy283
           have H' := Aside0.mk H
           clear H
           have p262 : 0 ≤ (x19_1 : Int) := of_decide_eq_true (by first | (with_reducible assumption) | assumption)
           have q262 : x19_1 < (t259.length : Int) := of_decide_eq_true (by first | (with_reducible assumption) | assumption)
           obtain ⟨ad262, e262, hx262_0⟩ := Kd.at_int (Kd.R_reads' HO_17.out).2.2 x19_1 p262 q262
           cases e262
           replace p262 := eq_true p262
           replace q262 := eq_true q262
           go_wp2_with (first | ((with_reducible refine gate_callee (f := 17) rfl ?_); refine goesL_ (some 25) rfl rfl Try.func17 (by kernel_rfl) rfl #[.slice A1 l1.length c1, .int .u32 (rd t259 x19_1)] rfl (by (try simp only [List.map_toArray, List.map_cons, List.map_nil]); first | done | rfl | (simp only [List.length_drop, List.length_take]; rfl)) ?_; (with_reducible refine (q5z.calls k1 _ _ l1 (rd t259 x19_1) true _ ?side1 ?side2 A13.out).mono ?_); (case side1 => repeat (first | exact (Kd.V_reads' HO_1.out).2.2 | (with_reducible refine Kd.C_alloc ?_ _) | (with_reducible refine Kd.C_drewN ?_ _) | (with_reducible refine Kd.C_drew ?_))); (case side2 => exact (Kd.V_reads' HO_1.out).2.1); rintro e w49 ⟨rfl, hb⟩; refine ⟨_, rfl, ?_⟩; have n0_ := Aside0.mk (Kd.V_below (by (with_reducible repeat (first | apply Kd.V_alloc | apply Kd.V_drewN | apply Kd.V_drew)); exact HO_1.out) hb); have n1_ := Aside0.mk (Kd.V_below (by (with_reducible repeat (first | apply Kd.V_alloc | apply Kd.V_drewN | apply Kd.V_drew)); exact HO_2.out) hb); have n2_ := Aside0.mk (Kd.R_below (by (with_reducible repeat (first | apply Kd.R_alloc | apply Kd.R_drewN | apply Kd.R_drew)); exact HO_7.out) hb); have n3_ := Aside0.mk (Kd.R_below (by (with_reducible repeat (first | apply Kd.R_alloc | apply Kd.R_drewN | apply Kd.R_drew)); exact HO_8.out) hb); have n4_ := Aside0.mk (Kd.R_below (by (with_reducible repeat (first | apply Kd.R_alloc | apply Kd.R_drewN | apply Kd.R_drew)); exact HO_17.out) hb); have n5_ := Aside0.mk (below_step (by repeat (first | (with_reducible first | exact HB.out | apply below_alloc | apply pw_below_drewN | apply below_drew1) | exact HB.out)) hb); clear HO_1; clear HO_2; clear HO_7; clear HO_8; clear HO_17; clear HB; have HO_1 := n0_; have HO_2 := n1_; have HO_7 := n2_; have HO_8 := n3_; have HO_17 := n4_; have HB := n5_; clear n0_ n1_ n2_ n3_ n4_ n5_; (try clear hb); (try clear hb2); (try clear hk); (try clear hi)) | ((with_reducible refine gate_callee (f := 17) rfl ?_); refine goesL_ (some 28) rfl rfl Try.func17 (by kernel_rfl) rfl #[.slice A2 l2.length c2, .int .u32 (rd t259 x19_1)] rfl (by (try simp only [List.map_toArray, List.map_cons, List.map_nil]); first | done | rfl | (simp only [List.length_drop, List.length_take]; rfl)) ?_; (with_reducible refine (q5z.calls k1 _ _ l2 (rd t259 x19_1) true _ ?side1 ?side2 A14.out).mono ?_); (case side1 => repeat (first | exact (Kd.V_reads' HO_2.out).2.2 | (with_reducible refine Kd.C_alloc ?_ _) | (with_reducible refine Kd.C_drewN ?_ _) | (with_reducible refine Kd.C_drew ?_))); (case side2 => exact (Kd.V_reads' HO_2.out).2.1); rintro e w50 ⟨rfl, hb⟩; refine ⟨_, rfl, ?_⟩; have n0_ := Aside0.mk (Kd.V_below (by (with_reducible repeat (first | apply Kd.V_alloc | apply Kd.V_drewN | apply Kd.V_drew)); exact HO_1.out) hb); have n1_ := Aside0.mk (Kd.V_below (by (with_reducible repeat (first | apply Kd.V_alloc | apply Kd.V_drewN | apply Kd.V_drew)); exact HO_2.out) hb); have n2_ := Aside0.mk (Kd.R_below (by (with_reducible repeat (first | apply Kd.R_alloc | apply Kd.R_drewN | apply Kd.R_drew)); exact HO_7.out) hb); have n3_ := Aside0.mk (Kd.R_below (by (with_reducible repeat (first | apply Kd.R_alloc | apply Kd.R_drewN | apply Kd.R_drew)); exact HO_8.out) hb); have n4_ := Aside0.mk (Kd.R_below (by (with_reducible repeat (first | apply Kd.R_alloc | apply Kd.R_drewN | apply Kd.R_drew)); exact HO_17.out) hb); have n5_ := Aside0.mk (below_step (by repeat (first | (with_reducible first | exact HB.out | apply below_alloc | apply pw_below_drewN | apply below_drew1) | exact HB.out)) hb); clear HO_1; clear HO_2; clear HO_7; clear HO_8; clear HO_17; clear HB; have HO_1 := n0_; have HO_2 := n1_; have HO_7 := n2_; have HO_8 := n3_; have HO_17 := n4_; have HB := n5_; clear n0_ n1_ n2_ n3_ n4_ n5_; (try clear hb); (try clear hb2); (try clear hk); (try clear hi)) | ((with_reducible refine gate_builtin (b := .append) (xs := #[.tmp 29, .tmp 56]) rfl ?_); at_builtin; refine Kd.R_append Kd.bool (w0 := w) w.heap.size rfl (.tmp 29) (.tmp 56) 48 4 (.bool false) 1 rfl Try.underlying48 info4 rfl (by decide) (by omega) u8 x8_1 true [.bool true] (fun k_ => (w.heap.size ≤ k_)) (fun _ => False) rfl rfl ?aP (fun _ hk => hk.elim) ?aF ?aO ?aB ?aS ?aL ?_; (case aP => exact rfl); (case aB => exact (by repeat (first | (with_reducible first | exact HB.out | apply below_alloc | apply pw_below_drewN | apply below_drew1) | exact HB.out))); (case aF => exact (fun k_ hk => (Nat.le_trans (below_size (by repeat (first | (with_reducible first | exact HB.out | apply below_alloc | apply pw_below_drewN | apply below_drew1) | exact HB.out))) hk))); (case aO => exact (by (with_reducible repeat (first | apply Kd.R_alloc | apply Kd.R_drewN | apply Kd.R_drew)); exact HO_8.out)); (case aS => exact (below_size (by repeat (first | (with_reducible first | exact HB.out | apply below_alloc | apply pw_below_drewN | apply below_drew1) | exact HB.out)))); (case aL => have := LMc48.out; omega); intro v284 w51 ho hb hg hat; rw [← Ny283.out] at ho; have n0_ := Aside0.mk (Kd.V_afterv (ok := (fun k_ => ((P1_ k_ ∨ P2_ k_) ∨ w.heap.size ≤ k_) ∧ some k_ ≠ (.slice (some ad262) t259.length co9 : Value).ownBlock ∧ some k_ ≠ (.slice (some ad262) t259.length co9 : Value).ownBlock)) (by (with_reducible repeat (first | apply Kd.V_alloc | apply Kd.V_drewN | apply Kd.V_drew)); exact Kd.V_mono HO_1.out (fun _ hk => ⟨⟨hk.1, ⟨hk.2.1, hk.2.2.2⟩⟩, hk.2.2.1⟩)) hg hat); have n1_ := Aside0.mk (Kd.V_afterv (ok := (fun k_ => ((P1_ k_ ∨ P2_ k_) ∨ w.heap.size ≤ k_) ∧ some k_ ≠ (.slice (some ad262) t259.length co9 : Value).ownBlock ∧ some k_ ≠ (.slice (some ad262) t259.length co9 : Value).ownBlock)) (by (with_reducible repeat (first | apply Kd.V_alloc | apply Kd.V_drewN | apply Kd.V_drew)); exact Kd.V_mono HO_2.out (fun _ hk => ⟨⟨hk.1, ⟨hk.2.1, hk.2.2.2⟩⟩, hk.2.2.1⟩)) hg hat); have n2_ := Aside0.mk (Kd.R_over' (by (with_reducible repeat (first | apply Kd.R_alloc | apply Kd.R_drewN | apply Kd.R_drew)); exact HO_7.out) (Kd.R_typed (by (with_reducible repeat (first | apply Kd.R_alloc | apply Kd.R_drewN | apply Kd.R_drew)); exact HO_8.out)) (by decide) hg); have n3_ := Aside0.mk (Kd.R_over' (by (with_reducible repeat (first | apply Kd.R_alloc | apply Kd.R_drewN | apply Kd.R_drew)); exact HO_17.out) (Kd.R_typed (by (with_reducible repeat (first | apply Kd.R_alloc | apply Kd.R_drewN | apply Kd.R_drew)); exact HO_8.out)) (by decide) hg); have n4_ := Aside0.mk (hb); have n5_ := Aside0.mk (ho); clear HO_1; clear HO_2; clear HO_7; clear HO_17; clear HB; clear HO_8; have HO_1 := n0_; have HO_2 := n1_; have HO_7 := n2_; have HO_17 := n3_; have HB := n4_; have HO285 := n5_; clear n0_ n1_ n2_ n3_ n4_ n5_; clear ho hb hg hat))
           go_roundg k1
           case measure => have := HK1.out; omega
           case rel => exact ⟨(y283), (wrap64 (x19_1 + 1)), (by first | rfl | (simp; done) | (simp [*]; done)), H', ⟨by have := HK1.out; omega⟩, ⟨by (with_reducible repeat (first | apply Kd.V_alloc | apply Kd.V_drewN | apply Kd.V_drew)); exact Kd.V_mono HO_1.out (fun _ hk => ⟨hk.1.1, ⟨hk.1.2.1, ⟨hk.2, hk.1.2.2⟩⟩⟩)⟩, ⟨by (with_reducible repeat (first | apply Kd.V_alloc | apply Kd.V_drewN | apply Kd.V_drew)); exact Kd.V_mono HO_2.out (fun _ hk => ⟨hk.1.1, ⟨hk.1.2.1, ⟨hk.2, hk.1.2.2⟩⟩⟩)⟩, ⟨by (with_reducible repeat (first | apply Kd.R_alloc | apply Kd.R_drewN | apply Kd.R_drew)); exact HO_7.out⟩, ⟨by (with_reducible repeat (first | apply Kd.R_alloc | apply Kd.R_drewN | apply Kd.R_drew)); exact HO285.out⟩, ⟨by (with_reducible repeat (first | apply Kd.R_alloc | apply Kd.R_drewN | apply Kd.R_drew)); exact HO_17.out⟩, ⟨by repeat (first | (with_reducible first | exact HB.out | apply below_alloc | apply pw_below_drewN | apply below_drew1) | exact HB.out)⟩⟩
          ·
           rw [if_neg c48] at H
           exact absurd H (by simp)
         ·
          replace c47 := Bool.eq_false_iff.mpr c47
          subst c47
          have H1 : (if a0 = 3 then (if x8_1.length < 140737488355328 then (q10z.l0 k1 a0 l1 l2 t259 (x8_1 ++ [!true]) t259 (t259.length : Int) (wrap64 (x19_1 + 1))) else (none)) else (if x8_1.length < 140737488355328 then (q10z.l0 k1 a0 l1 l2 t259 (x8_1 ++ [false]) t259 (t259.length : Int) (wrap64 (x19_1 + 1))) else (none))) = some r := by rw [if_neg (show ¬ (false = true) by decide)] at H; exact H
          clear H
          have H := H1
          clear H1
          by_cases c52 : a0 = 3
          ·
           rw [if_pos c52] at H
           have c52b0 : (a0 == 3) = true := beq_iff_eq.mpr c52
           have c52b1 : (a0 != 3) = false := bne_eq_false_iff_eq.mpr c52
           clear c52
           by_cases c53 : x8_1.length < 140737488355328
           ·
            rw [if_pos c53] at H
            have LMc53 := Aside0.mk c53
            clear c53
            obtain ⟨y286, hy286⟩ : ∃ y_ : List Bool, y_ = (x8_1 ++ [!true]) := ⟨_, rfl⟩
            replace H : (q10z.l0 k1 a0 l1 l2 t259 y286 t259 (t259.length : Int) (wrap64 (x19_1 + 1))) = some r := by first | (rw [hy286]; with_reducible exact H) | (have H2_ := (Option.bind_some _ _).symm.trans H; rw [hy286]; with_reducible exact H2_) | (have H2_ := (Option.bind_some _ _).symm.trans H; with_reducible exact H2_) | with_reducible exact H | (rw [hy286]; exact H) | exact H
            have Ny286 := Aside0.mk hy286
            clear hy286
            have H' := Aside0.mk H
            clear H
            have p262 : 0 ≤ (x19_1 : Int) := of_decide_eq_true (by first | (with_reducible assumption) | assumption)
            have q262 : x19_1 < (t259.length : Int) := of_decide_eq_true (by first | (with_reducible assumption) | assumption)
            obtain ⟨ad262, e262, hx262_0⟩ := Kd.at_int (Kd.R_reads' HO_17.out).2.2 x19_1 p262 q262
            cases e262
            replace p262 := eq_true p262
            replace q262 := eq_true q262
            go_wp2_with (first | ((with_reducible refine gate_callee (f := 17) rfl ?_); refine goesL_ (some 25) rfl rfl Try.func17 (by kernel_rfl) rfl #[.slice A1 l1.length c1, .int .u32 (rd t259 x19_1)] rfl (by (try simp only [List.map_toArray, List.map_cons, List.map_nil]); first | done | rfl | (simp only [List.length_drop, List.length_take]; rfl)) ?_; (with_reducible refine (q5z.calls k1 _ _ l1 (rd t259 x19_1) true _ ?side1 ?side2 A13.out).mono ?_); (case side1 => repeat (first | exact (Kd.V_reads' HO_1.out).2.2 | (with_reducible refine Kd.C_alloc ?_ _) | (with_reducible refine Kd.C_drewN ?_ _) | (with_reducible refine Kd.C_drew ?_))); (case side2 => exact (Kd.V_reads' HO_1.out).2.1); rintro e w54 ⟨rfl, hb⟩; refine ⟨_, rfl, ?_⟩; have n0_ := Aside0.mk (Kd.V_below (by (with_reducible repeat (first | apply Kd.V_alloc | apply Kd.V_drewN | apply Kd.V_drew)); exact HO_1.out) hb); have n1_ := Aside0.mk (Kd.V_below (by (with_reducible repeat (first | apply Kd.V_alloc | apply Kd.V_drewN | apply Kd.V_drew)); exact HO_2.out) hb); have n2_ := Aside0.mk (Kd.R_below (by (with_reducible repeat (first | apply Kd.R_alloc | apply Kd.R_drewN | apply Kd.R_drew)); exact HO_7.out) hb); have n3_ := Aside0.mk (Kd.R_below (by (with_reducible repeat (first | apply Kd.R_alloc | apply Kd.R_drewN | apply Kd.R_drew)); exact HO_8.out) hb); have n4_ := Aside0.mk (Kd.R_below (by (with_reducible repeat (first | apply Kd.R_alloc | apply Kd.R_drewN | apply Kd.R_drew)); exact HO_17.out) hb); have n5_ := Aside0.mk (below_step (by repeat (first | (with_reducible first | exact HB.out | apply below_alloc | apply pw_below_drewN | apply below_drew1) | exact HB.out)) hb); clear HO_1; clear HO_2; clear HO_7; clear HO_8; clear HO_17; clear HB; have HO_1 := n0_; have HO_2 := n1_; have HO_7 := n2_; have HO_8 := n3_; have HO_17 := n4_; have HB := n5_; clear n0_ n1_ n2_ n3_ n4_ n5_; (try clear hb); (try clear hb2); (try clear hk); (try clear hi)) | ((with_reducible refine gate_callee (f := 17) rfl ?_); refine goesL_ (some 28) rfl rfl Try.func17 (by kernel_rfl) rfl #[.slice A2 l2.length c2, .int .u32 (rd t259 x19_1)] rfl (by (try simp only [List.map_toArray, List.map_cons, List.map_nil]); first | done | rfl | (simp only [List.length_drop, List.length_take]; rfl)) ?_; (with_reducible refine (q5z.calls k1 _ _ l2 (rd t259 x19_1) false _ ?side1 ?side2 A14.out).mono ?_); (case side1 => repeat (first | exact (Kd.V_reads' HO_2.out).2.2 | (with_reducible refine Kd.C_alloc ?_ _) | (with_reducible refine Kd.C_drewN ?_ _) | (with_reducible refine Kd.C_drew ?_))); (case side2 => exact (Kd.V_reads' HO_2.out).2.1); rintro e w55 ⟨rfl, hb⟩; refine ⟨_, rfl, ?_⟩; have n0_ := Aside0.mk (Kd.V_below (by (with_reducible repeat (first | apply Kd.V_alloc | apply Kd.V_drewN | apply Kd.V_drew)); exact HO_1.out) hb); have n1_ := Aside0.mk (Kd.V_below (by (with_reducible repeat (first | apply Kd.V_alloc | apply Kd.V_drewN | apply Kd.V_drew)); exact HO_2.out) hb); have n2_ := Aside0.mk (Kd.R_below (by (with_reducible repeat (first | apply Kd.R_alloc | apply Kd.R_drewN | apply Kd.R_drew)); exact HO_7.out) hb); have n3_ := Aside0.mk (Kd.R_below (by (with_reducible repeat (first | apply Kd.R_alloc | apply Kd.R_drewN | apply Kd.R_drew)); exact HO_8.out) hb); have n4_ := Aside0.mk (Kd.R_below (by (with_reducible repeat (first | apply Kd.R_alloc | apply Kd.R_drewN | apply Kd.R_drew)); exact HO_17.out) hb); have n5_ := Aside0.mk (below_step (by repeat (first | (with_reducible first | exact HB.out | apply below_alloc | apply pw_below_drewN | apply below_drew1) | exact HB.out)) hb); clear HO_1; clear HO_2; clear HO_7; clear HO_8; clear HO_17; clear HB; have HO_1 := n0_; have HO_2 := n1_; have HO_7 := n2_; have HO_8 := n3_; have HO_17 := n4_; have HB := n5_; clear n0_ n1_ n2_ n3_ n4_ n5_; (try clear hb); (try clear hb2); (try clear hk); (try clear hi)) | ((with_reducible refine gate_builtin (b := .append) (xs := #[.tmp 29, .tmp 56]) rfl ?_); at_builtin; refine Kd.R_append Kd.bool (w0 := w) w.heap.size rfl (.tmp 29) (.tmp 56) 48 4 (.bool false) 1 rfl Try.underlying48 info4 rfl (by decide) (by omega) u8 x8_1 (!true) [.bool (!true)] (fun k_ => (w.heap.size ≤ k_)) (fun _ => False) rfl rfl ?aP (fun _ hk => hk.elim) ?aF ?aO ?aB ?aS ?aL ?_; (case aP => exact rfl); (case aB => exact (by repeat (first | (with_reducible first | exact HB.out | apply below_alloc | apply pw_below_drewN | apply below_drew1) | exact HB.out))); (case aF => exact (fun k_ hk => (Nat.le_trans (below_size (by repeat (first | (with_reducible first | exact HB.out | apply below_alloc | apply pw_below_drewN | apply below_drew1) | exact HB.out))) hk))); (case aO => exact (by (with_reducible repeat (first | apply Kd.R_alloc | apply Kd.R_drewN | apply Kd.R_drew)); exact HO_8.out)); (case aS => exact (below_size (by repeat (first | (with_reducible first | exact HB.out | apply below_alloc | apply pw_below_drewN | apply below_drew1) | exact HB.out)))); (case aL => have := LMc53.out; omega); intro v287 w56 ho hb hg hat; rw [← Ny286.out] at ho; have n0_ := Aside0.mk (Kd.V_afterv (ok := (fun k_ => ((P1_ k_ ∨ P2_ k_) ∨ w.heap.size ≤ k_) ∧ some k_ ≠ (.slice (some ad262) t259.length co9 : Value).ownBlock ∧ some k_ ≠ (.slice (some ad262) t259.length co9 : Value).ownBlock)) (by (with_reducible repeat (first | apply Kd.V_alloc | apply Kd.V_drewN | apply Kd.V_drew)); exact Kd.V_mono HO_1.out (fun _ hk => ⟨⟨hk.1, ⟨hk.2.1, hk.2.2.2⟩⟩, hk.2.2.1⟩)) hg hat); have n1_ := Aside0.mk (Kd.V_afterv (ok := (fun k_ => ((P1_ k_ ∨ P2_ k_) ∨ w.heap.size ≤ k_) ∧ some k_ ≠ (.slice (some ad262) t259.length co9 : Value).ownBlock ∧ some k_ ≠ (.slice (some ad262) t259.length co9 : Value).ownBlock)) (by (with_reducible repeat (first | apply Kd.V_alloc | apply Kd.V_drewN | apply Kd.V_drew)); exact Kd.V_mono HO_2.out (fun _ hk => ⟨⟨hk.1, ⟨hk.2.1, hk.2.2.2⟩⟩, hk.2.2.1⟩)) hg hat); have n2_ := Aside0.mk (Kd.R_over' (by (with_reducible repeat (first | apply Kd.R_alloc | apply Kd.R_drewN | apply Kd.R_drew)); exact HO_7.out) (Kd.R_typed (by (with_reducible repeat (first | apply Kd.R_alloc | apply Kd.R_drewN | apply Kd.R_drew)); exact HO_8.out)) (by decide) hg); have n3_ := Aside0.mk (Kd.R_over' (by (with_reducible repeat (first | apply Kd.R_alloc | apply Kd.R_drewN | apply Kd.R_drew)); exact HO_17.out) (Kd.R_typed (by (with_reducible repeat (first | apply Kd.R_alloc | apply Kd.R_drewN | apply Kd.R_drew)); exact HO_8.out)) (by decide) hg); have n4_ := Aside0.mk (hb); have n5_ := Aside0.mk (ho); clear HO_1; clear HO_2; clear HO_7; clear HO_17; clear HB; clear HO_8; have HO_1 := n0_; have HO_2 := n1_; have HO_7 := n2_; have HO_17 := n3_; have HB := n4_; have HO288 := n5_; clear n0_ n1_ n2_ n3_ n4_ n5_; clear ho hb hg hat))
            go_roundg k1
            case measure => have := HK1.out; omega
            case rel => exact ⟨(y286), (wrap64 (x19_1 + 1)), (by first | rfl | (simp; done) | (simp [*]; done)), H', ⟨by have := HK1.out; omega⟩, ⟨by (with_reducible repeat (first | apply Kd.V_alloc | apply Kd.V_drewN | apply Kd.V_drew)); exact Kd.V_mono HO_1.out (fun _ hk => ⟨hk.1.1, ⟨hk.1.2.1, ⟨hk.2, hk.1.2.2⟩⟩⟩)⟩, ⟨by (with_reducible repeat (first | apply Kd.V_alloc | apply Kd.V_drewN | apply Kd.V_drew)); exact Kd.V_mono HO_2.out (fun _ hk => ⟨hk.1.1, ⟨hk.1.2.1, ⟨hk.2, hk.1.2.2⟩⟩⟩)⟩, ⟨by (with_reducible repeat (first | apply Kd.R_alloc | apply Kd.R_drewN | apply Kd.R_drew)); exact HO_7.out⟩, ⟨by (with_reducible repeat (first | apply Kd.R_alloc | apply Kd.R_drewN | apply Kd.R_drew)); exact HO288.out⟩, ⟨by (with_reducible repeat (first | apply Kd.R_alloc | apply Kd.R_drewN | apply Kd.R_drew)); exact HO_17.out⟩, ⟨by repeat (first | (with_reducible first | exact HB.out | apply below_alloc | apply pw_below_drewN | apply below_drew1) | exact HB.out)⟩⟩
           ·
            rw [if_neg c53] at H
            exact absurd H (by simp)
          ·
           rw [if_neg c52] at H
           have c52b0 : (a0 == 3) = false := beq_eq_false_iff_ne.mpr c52
           have c52b1 : (a0 != 3) = true := bne_iff_ne.mpr c52
           by_cases c57 : x8_1.length < 140737488355328
           ·
            rw [if_pos c57] at H
            have LMc57 := Aside0.mk c57
            clear c57
            obtain ⟨y289, hy289⟩ : ∃ y_ : List Bool, y_ = (x8_1 ++ [false]) := ⟨_, rfl⟩
            replace H : (q10z.l0 k1 a0 l1 l2 t259 y289 t259 (t259.length : Int) (wrap64 (x19_1 + 1))) = some r := by first | (rw [hy289]; with_reducible exact H) | (have H2_ := (Option.bind_some _ _).symm.trans H; rw [hy289]; with_reducible exact H2_) | (have H2_ := (Option.bind_some _ _).symm.trans H; with_reducible exact H2_) | with_reducible exact H | (rw [hy289]; exact H) | exact H
            have Ny289 := Aside0.mk hy289
            clear hy289
            have H' := Aside0.mk H
            clear H
            have p262 : 0 ≤ (x19_1 : Int) := of_decide_eq_true (by first | (with_reducible assumption) | assumption)
            have q262 : x19_1 < (t259.length : Int) := of_decide_eq_true (by first | (with_reducible assumption) | assumption)
            obtain ⟨ad262, e262, hx262_0⟩ := Kd.at_int (Kd.R_reads' HO_17.out).2.2 x19_1 p262 q262
            cases e262
            replace p262 := eq_true p262
            replace q262 := eq_true q262
            go_wp2_with (first | ((with_reducible refine gate_callee (f := 17) rfl ?_); refine goesL_ (some 25) rfl rfl Try.func17 (by kernel_rfl) rfl #[.slice A1 l1.length c1, .int .u32 (rd t259 x19_1)] rfl (by (try simp only [List.map_toArray, List.map_cons, List.map_nil]); first | done | rfl | (simp only [List.length_drop, List.length_take]; rfl)) ?_; (with_reducible refine (q5z.calls k1 _ _ l1 (rd t259 x19_1) true _ ?side1 ?side2 A13.out).mono ?_); (case side1 => repeat (first | exact (Kd.V_reads' HO_1.out).2.2 | (with_reducible refine Kd.C_alloc ?_ _) | (with_reducible refine Kd.C_drewN ?_ _) | (with_reducible refine Kd.C_drew ?_))); (case side2 => exact (Kd.V_reads' HO_1.out).2.1); rintro e w58 ⟨rfl, hb⟩; refine ⟨_, rfl, ?_⟩; have n0_ := Aside0.mk (Kd.V_below (by (with_reducible repeat (first | apply Kd.V_alloc | apply Kd.V_drewN | apply Kd.V_drew)); exact HO_1.out) hb); have n1_ := Aside0.mk (Kd.V_below (by (with_reducible repeat (first | apply Kd.V_alloc | apply Kd.V_drewN | apply Kd.V_drew)); exact HO_2.out) hb); have n2_ := Aside0.mk (Kd.R_below (by (with_reducible repeat (first | apply Kd.R_alloc | apply Kd.R_drewN | apply Kd.R_drew)); exact HO_7.out) hb); have n3_ := Aside0.mk (Kd.R_below (by (with_reducible repeat (first | apply Kd.R_alloc | apply Kd.R_drewN | apply Kd.R_drew)); exact HO_8.out) hb); have n4_ := Aside0.mk (Kd.R_below (by (with_reducible repeat (first | apply Kd.R_alloc | apply Kd.R_drewN | apply Kd.R_drew)); exact HO_17.out) hb); have n5_ := Aside0.mk (below_step (by repeat (first | (with_reducible first | exact HB.out | apply below_alloc | apply pw_below_drewN | apply below_drew1) | exact HB.out)) hb); clear HO_1; clear HO_2; clear HO_7; clear HO_8; clear HO_17; clear HB; have HO_1 := n0_; have HO_2 := n1_; have HO_7 := n2_; have HO_8 := n3_; have HO_17 := n4_; have HB := n5_; clear n0_ n1_ n2_ n3_ n4_ n5_; (try clear hb); (try clear hb2); (try clear hk); (try clear hi)) | ((with_reducible refine gate_callee (f := 17) rfl ?_); refine goesL_ (some 28) rfl rfl Try.func17 (by kernel_rfl) rfl #[.slice A2 l2.length c2, .int .u32 (rd t259 x19_1)] rfl (by (try simp only [List.map_toArray, List.map_cons, List.map_nil]); first | done | rfl | (simp only [List.length_drop, List.length_take]; rfl)) ?_; (with_reducible refine (q5z.calls k1 _ _ l2 (rd t259 x19_1) false _ ?side1 ?side2 A14.out).mono ?_); (case side1 => repeat (first | exact (Kd.V_reads' HO_2.out).2.2 | (with_reducible refine Kd.C_alloc ?_ _) | (with_reducible refine Kd.C_drewN ?_ _) | (with_reducible refine Kd.C_drew ?_))); (case side2 => exact (Kd.V_reads' HO_2.out).2.1); rintro e w59 ⟨rfl, hb⟩; refine ⟨_, rfl, ?_⟩; have n0_ := Aside0.mk (Kd.V_below (by (with_reducible repeat (first | apply Kd.V_alloc | apply Kd.V_drewN | apply Kd.V_drew)); exact HO_1.out) hb); have n1_ := Aside0.mk (Kd.V_below (by (with_reducible repeat (first | apply Kd.V_alloc | apply Kd.V_drewN | apply Kd.V_drew)); exact HO_2.out) hb); have n2_ := Aside0.mk (Kd.R_below (by (with_reducible repeat (first | apply Kd.R_alloc | apply Kd.R_drewN | apply Kd.R_drew)); exact HO_7.out) hb); have n3_ := Aside0.mk (Kd.R_below (by (with_reducible repeat (first | apply Kd.R_alloc | apply Kd.R_drewN | apply Kd.R_drew)); exact HO_8.out) hb); have n4_ := Aside0.mk (Kd.R_below (by (with_reducible repeat (first | apply Kd.R_alloc | apply Kd.R_drewN | apply Kd.R_drew)); exact HO_17.out) hb); have n5_ := Aside0.mk (below_step (by repeat (first | (with_reducible first | exact HB.out | apply below_alloc | apply pw_below_drewN | apply below_drew1) | exact HB.out)) hb); clear HO_1; clear HO_2; clear HO_7; clear HO_8; clear HO_17; clear HB; have HO_1 := n0_; have HO_2 := n1_; have HO_7 := n2_; have HO_8 := n3_; have HO_17 := n4_; have HB := n5_; clear n0_ n1_ n2_ n3_ n4_ n5_; (try clear hb); (try clear hb2); (try clear hk); (try clear hi)) | ((with_reducible refine gate_builtin (b := .append) (xs := #[.tmp 29, .tmp 56]) rfl ?_); at_builtin; refine Kd.R_append Kd.bool (w0 := w) w.heap.size rfl (.tmp 29) (.tmp 56) 48 4 (.bool false) 1 rfl Try.underlying48 info4 rfl (by decide) (by omega) u8 x8_1 false [.bool false] (fun k_ => (w.heap.size ≤ k_)) (fun _ => False) rfl rfl ?aP (fun _ hk => hk.elim) ?aF ?aO ?aB ?aS ?aL ?_; (case aP => exact rfl); (case aB => exact (by repeat (first | (with_reducible first | exact HB.out | apply below_alloc | apply pw_below_drewN | apply below_drew1) | exact HB.out))); (case aF => exact (fun k_ hk => (Nat.le_trans (below_size (by repeat (first | (with_reducible first | exact HB.out | apply below_alloc | apply pw_below_drewN | apply below_drew1) | exact HB.out))) hk))); (case aO => exact (by (with_reducible repeat (first | apply Kd.R_alloc | apply Kd.R_drewN | apply Kd.R_drew)); exact HO_8.out)); (case aS => exact (below_size (by repeat (first | (with_reducible first | exact HB.out | apply below_alloc | apply pw_below_drewN | apply below_drew1) | exact HB.out)))); (case aL => have := LMc57.out; omega); intro v290 w60 ho hb hg hat; rw [← Ny289.out] at ho; have n0_ := Aside0.mk (Kd.V_afterv (ok := (fun k_ => ((P1_ k_ ∨ P2_ k_) ∨ w.heap.size ≤ k_) ∧ some k_ ≠ (.slice (some ad262) t259.length co9 : Value).ownBlock ∧ some k_ ≠ (.slice (some ad262) t259.length co9 : Value).ownBlock)) (by (with_reducible repeat (first | apply Kd.V_alloc | apply Kd.V_drewN | apply Kd.V_drew)); exact Kd.V_mono HO_1.out (fun _ hk => ⟨⟨hk.1, ⟨hk.2.1, hk.2.2.2⟩⟩, hk.2.2.1⟩)) hg hat); have n1_ := Aside0.mk (Kd.V_afterv (ok := (fun k_ => ((P1_ k_ ∨ P2_ k_) ∨ w.heap.size ≤ k_) ∧ some k_ ≠ (.slice (some ad262) t259.length co9 : Value).ownBlock ∧ some k_ ≠ (.slice (some ad262) t259.length co9 : Value).ownBlock)) (by (with_reducible repeat (first | apply Kd.V_alloc | apply Kd.V_drewN | apply Kd.V_drew)); exact Kd.V_mono HO_2.out (fun _ hk => ⟨⟨hk.1, ⟨hk.2.1, hk.2.2.2⟩⟩, hk.2.2.1⟩)) hg hat); have n2_ := Aside0.mk (Kd.R_over' (by (with_reducible repeat (first | apply Kd.R_alloc | apply Kd.R_drewN | apply Kd.R_drew)); exact HO_7.out) (Kd.R_typed (by (with_reducible repeat (first | apply Kd.R_alloc | apply Kd.R_drewN | apply Kd.R_drew)); exact HO_8.out)) (by decide) hg); have n3_ := Aside0.mk (Kd.R_over' (by (with_reducible repeat (first | apply Kd.R_alloc | apply Kd.R_drewN | apply Kd.R_drew)); exact HO_17.out) (Kd.R_typed (by (with_reducible repeat (first | apply Kd.R_alloc | apply Kd.R_drewN | apply Kd.R_drew)); exact HO_8.out)) (by decide) hg); have n4_ := Aside0.mk (hb); have n5_ := Aside0.mk (ho); clear HO_1; clear HO_2; clear HO_7; clear HO_17; clear HB; clear HO_8; have HO_1 := n0_; have HO_2 := n1_; have HO_7 := n2_; have HO_17 := n3_; have HB := n4_; have HO291 := n5_; clear n0_ n1_ n2_ n3_ n4_ n5_; clear ho hb hg hat))
            go_roundg k1
            case measure => have := HK1.out; omega
            case rel => exact ⟨(y289), (wrap64 (x19_1 + 1)), (by first | rfl | (simp; done) | (simp [*]; done)), H', ⟨by have := HK1.out; omega⟩, ⟨by (with_reducible repeat (first | apply Kd.V_alloc | apply Kd.V_drewN | apply Kd.V_drew)); exact Kd.V_mono HO_1.out (fun _ hk => ⟨hk.1.1, ⟨hk.1.2.1, ⟨hk.2, hk.1.2.2⟩⟩⟩)⟩, ⟨by (with_reducible repeat (first | apply Kd.V_alloc | apply Kd.V_drewN | apply Kd.V_drew)); exact Kd.V_mono HO_2.out (fun _ hk => ⟨hk.1.1, ⟨hk.1.2.1, ⟨hk.2, hk.1.2.2⟩⟩⟩)⟩, ⟨by (with_reducible repeat (first | apply Kd.R_alloc | apply Kd.R_drewN | apply Kd.R_drew)); exact HO_7.out⟩, ⟨by (with_reducible repeat (first | apply Kd.R_alloc | apply Kd.R_drewN | apply Kd.R_drew)); exact HO291.out⟩, ⟨by (with_reducible repeat (first | apply Kd.R_alloc | apply Kd.R_drewN | apply Kd.R_drew)); exact HO_17.out⟩, ⟨by repeat (first | (with_reducible first | exact HB.out | apply below_alloc | apply pw_below_drewN | apply below_drew1) | exact HB.out)⟩⟩
           ·
            rw [if_neg c57] at H
            exact absurd H (by simp)
        ·
         replace c46 := Bool.eq_false_iff.mpr c46
         subst c46
         have H1 : (if a0 = 3 then (if x8_1.length < 140737488355328 then (q10z.l0 k1 a0 l1 l2 t259 (x8_1 ++ [!false]) t259 (t259.length : Int) (wrap64 (x19_1 + 1))) else (none)) else (if x8_1.length < 140737488355328 then (q10z.l0 k1 a0 l1 l2 t259 (x8_1 ++ [false]) t259 (t259.length : Int) (wrap64 (x19_1 + 1))) else (none))) = some r := by rw [if_neg (show ¬ (false = true) by decide)] at H; exact H
         clear H
         have H := H1
         clear H1
         by_cases c61 : a0 = 3
         ·
          rw [if_pos c61] at H
          have c61b0 : (a0 == 3) = true := beq_iff_eq.mpr c61
          have c61b1 : (a0 != 3) = false := bne_eq_false_iff_eq.mpr c61
          clear c61
          by_cases c62 : x8_1.length < 140737488355328
          ·
           rw [if_pos c62] at H
           have LMc62 := Aside0.mk c62
           clear c62
           obtain ⟨y292, hy292⟩ : ∃ y_ : List Bool, y_ = (x8_1 ++ [!false]) := ⟨_, rfl⟩
           replace H : (q10z.l0 k1 a0 l1 l2 t259 y292 t259 (t259.length : Int) (wrap64 (x19_1 + 1))) = some r := by first | (rw [hy292]; with_reducible exact H) | (have H2_ := (Option.bind_some _ _).symm.trans H; rw [hy292]; with_reducible exact H2_) | (have H2_ := (Option.bind_some _ _).symm.trans H; with_reducible exact H2_) | with_reducible exact H | (rw [hy292]; exact H) | exact H
           have Ny292 := Aside0.mk hy292
           clear hy292
           have H' := Aside0.mk H
           clear H
           have p262 : 0 ≤ (x19_1 : Int) := of_decide_eq_true (by first | (with_reducible assumption) | assumption)
           have q262 : x19_1 < (t259.length : Int) := of_decide_eq_true (by first | (with_reducible assumption) | assumption)
           obtain ⟨ad262, e262, hx262_0⟩ := Kd.at_int (Kd.R_reads' HO_17.out).2.2 x19_1 p262 q262
           cases e262
           replace p262 := eq_true p262
           replace q262 := eq_true q262
           go_wp2_with (first | ((with_reducible refine gate_callee (f := 17) rfl ?_); refine goesL_ (some 25) rfl rfl Try.func17 (by kernel_rfl) rfl #[.slice A1 l1.length c1, .int .u32 (rd t259 x19_1)] rfl (by (try simp only [List.map_toArray, List.map_cons, List.map_nil]); first | done | rfl | (simp only [List.length_drop, List.length_take]; rfl)) ?_; (with_reducible refine (q5z.calls k1 _ _ l1 (rd t259 x19_1) false _ ?side1 ?side2 A13.out).mono ?_); (case side1 => repeat (first | exact (Kd.V_reads' HO_1.out).2.2 | (with_reducible refine Kd.C_alloc ?_ _) | (with_reducible refine Kd.C_drewN ?_ _) | (with_reducible refine Kd.C_drew ?_))); (case side2 => exact (Kd.V_reads' HO_1.out).2.1); rintro e w63 ⟨rfl, hb⟩; refine ⟨_, rfl, ?_⟩; have n0_ := Aside0.mk (Kd.V_below (by (with_reducible repeat (first | apply Kd.V_alloc | apply Kd.V_drewN | apply Kd.V_drew)); exact HO_1.out) hb); have n1_ := Aside0.mk (Kd.V_below (by (with_reducible repeat (first | apply Kd.V_alloc | apply Kd.V_drewN | apply Kd.V_drew)); exact HO_2.out) hb); have n2_ := Aside0.mk (Kd.R_below (by (with_reducible repeat (first | apply Kd.R_alloc | apply Kd.R_drewN | apply Kd.R_drew)); exact HO_7.out) hb); have n3_ := Aside0.mk (Kd.R_below (by (with_reducible repeat (first | apply Kd.R_alloc | apply Kd.R_drewN | apply Kd.R_drew)); exact HO_8.out) hb); have n4_ := Aside0.mk (Kd.R_below (by (with_reducible repeat (first | apply Kd.R_alloc | apply Kd.R_drewN | apply Kd.R_drew)); exact HO_17.out) hb); have n5_ := Aside0.mk (below_step (by repeat (first | (with_reducible first | exact HB.out | apply below_alloc | apply pw_below_drewN | apply below_drew1) | exact HB.out)) hb); clear HO_1; clear HO_2; clear HO_7; clear HO_8; clear HO_17; clear HB; have HO_1 := n0_; have HO_2 := n1_; have HO_7 := n2_; have HO_8 := n3_; have HO_17 := n4_; have HB := n5_; clear n0_ n1_ n2_ n3_ n4_ n5_; (try clear hb); (try clear hb2); (try clear hk); (try clear hi)) | ((with_reducible refine gate_callee (f := 17) rfl ?_); refine goesL_ (some 28) rfl rfl Try.func17 (by kernel_rfl) rfl #[.slice A2 l2.length c2, .int .u32 (rd t259 x19_1)] rfl (by (try simp only [List.map_toArray, List.map_cons, List.map_nil]); first | done | rfl | (simp only [List.length_drop, List.length_take]; rfl)) ?_; (with_reducible refine (q5z.calls k1 _ _ l2 (rd t259 x19_1) t264 _ ?side1 ?side2 A14.out).mono ?_); (case side1 => repeat (first | exact (Kd.V_reads' HO_2.out).2.2 | (with_reducible refine Kd.C_alloc ?_ _) | (with_reducible refine Kd.C_drewN ?_ _) | (with_reducible refine Kd.C_drew ?_))); (case side2 => exact (Kd.V_reads' HO_2.out).2.1); rintro e w64 ⟨rfl, hb⟩; refine ⟨_, rfl, ?_⟩; have n0_ := Aside0.mk (Kd.V_below (by (with_reducible repeat (first | apply Kd.V_alloc | apply Kd.V_drewN | apply Kd.V_drew)); exact HO_1.out) hb); have n1_ := Aside0.mk (Kd.V_below (by (with_reducible repeat (first | apply Kd.V_alloc | apply Kd.V_drewN | apply Kd.V_drew)); exact HO_2.out) hb); have n2_ := Aside0.mk (Kd.R_below (by (with_reducible repeat (first | apply Kd.R_alloc | apply Kd.R_drewN | apply Kd.R_drew)); exact HO_7.out) hb); have n3_ := Aside0.mk (Kd.R_below (by (with_reducible repeat (first | apply Kd.R_alloc | apply Kd.R_drewN | apply Kd.R_drew)); exact HO_8.out) hb); have n4_ := Aside0.mk (Kd.R_below (by (with_reducible repeat (first | apply Kd.R_alloc | apply Kd.R_drewN | apply Kd.R_drew)); exact HO_17.out) hb); have n5_ := Aside0.mk (below_step (by repeat (first | (with_reducible first | exact HB.out | apply below_alloc | apply pw_below_drewN | apply below_drew1) | exact HB.out)) hb); clear HO_1; clear HO_2; clear HO_7; clear HO_8; clear HO_17; clear HB; have HO_1 := n0_; have HO_2 := n1_; have HO_7 := n2_; have HO_8 := n3_; have HO_17 := n4_; have HB := n5_; clear n0_ n1_ n2_ n3_ n4_ n5_; (try clear hb); (try clear hb2); (try clear hk); (try clear hi)) | ((with_reducible refine gate_builtin (b := .append) (xs := #[.tmp 29, .tmp 56]) rfl ?_); at_builtin; refine Kd.R_append Kd.bool (w0 := w) w.heap.size rfl (.tmp 29) (.tmp 56) 48 4 (.bool false) 1 rfl Try.underlying48 info4 rfl (by decide) (by omega) u8 x8_1 (!false) [.bool (!false)] (fun k_ => (w.heap.size ≤ k_)) (fun _ => False) rfl rfl ?aP (fun _ hk => hk.elim) ?aF ?aO ?aB ?aS ?aL ?_; (case aP => exact rfl); (case aB => exact (by repeat (first | (with_reducible first | exact HB.out | apply below_alloc | apply pw_below_drewN | apply below_drew1) | exact HB.out))); (case aF => exact (fun k_ hk => (Nat.le_trans (below_size (by repeat (first | (with_reducible first | exact HB.out | apply below_alloc | apply pw_below_drewN | apply below_drew1) | exact HB.out))) hk))); (case aO => exact (by (with_reducible repeat (first | apply Kd.R_alloc | apply Kd.R_drewN | apply Kd.R_drew)); exact HO_8.out)); (case aS => exact (below_size (by repeat (first | (with_reducible first | exact HB.out | apply below_alloc | apply pw_below_drewN | apply below_drew1) | exact HB.out)))); (case aL => have := LMc62.out; omega); intro v293 w65 ho hb hg hat; rw [← Ny292.out] at ho; have n0_ := Aside0.mk (Kd.V_afterv (ok := (fun k_ => ((P1_ k_ ∨ P2_ k_) ∨ w.heap.size ≤ k_) ∧ some k_ ≠ (.slice (some ad262) t259.length co9 : Value).ownBlock ∧ some k_ ≠ (.slice (some ad262) t259.length co9 : Value).ownBlock)) (by (with_reducible repeat (first | apply Kd.V_alloc | apply Kd.V_drewN | apply Kd.V_drew)); exact Kd.V_mono HO_1.out (fun _ hk => ⟨⟨hk.1, ⟨hk.2.1, hk.2.2.2⟩⟩, hk.2.2.1⟩)) hg hat); have n1_ := Aside0.mk (Kd.V_afterv (ok := (fun k_ => ((P1_ k_ ∨ P2_ k_) ∨ w.heap.size ≤ k_) ∧ some k_ ≠ (.slice (some ad262) t259.length co9 : Value).ownBlock ∧ some k_ ≠ (.slice (some ad262) t259.length co9 : Value).ownBlock)) (by (with_reducible repeat (first | apply Kd.V_alloc | apply Kd.V_drewN | apply Kd.V_drew)); exact Kd.V_mono HO_2.out (fun _ hk => ⟨⟨hk.1, ⟨hk.2.1, hk.2.2.2⟩⟩, hk.2.2.1⟩)) hg hat); have n2_ := Aside0.mk (Kd.R_over' (by (with_reducible repeat (first | apply Kd.R_alloc | apply Kd.R_drewN | apply Kd.R_drew)); exact HO_7.out) (Kd.R_typed (by (with_reducible repeat (first | apply Kd.R_alloc | apply Kd.R_drewN | apply Kd.R_drew)); exact HO_8.out)) (by decide) hg); have n3_ := Aside0.mk (Kd.R_over' (by (with_reducible repeat (first | apply Kd.R_alloc | apply Kd.R_drewN | apply Kd.R_drew)); exact HO_17.out) (Kd.R_typed (by (with_reducible repeat (first | apply Kd.R_alloc | apply Kd.R_drewN | apply Kd.R_drew)); exact HO_8.out)) (by decide) hg); have n4_ := Aside0.mk (hb); have n5_ := Aside0.mk (ho); clear HO_1; clear HO_2; clear HO_7; clear HO_17; clear HB; clear HO_8; have HO_1 := n0_; have HO_2 := n1_; have HO_7 := n2_; have HO_17 := n3_; have HB := n4_; have HO294 := n5_; clear n0_ n1_ n2_ n3_ n4_ n5_; clear ho hb hg hat))
           go_roundg k1
           case measure => have := HK1.out; omega
           case rel => exact ⟨(y292), (wrap64 (x19_1 + 1)), (by first | rfl | (simp; done) | (simp [*]; done)), H', ⟨by have := HK1.out; omega⟩, ⟨by (with_reducible repeat (first | apply Kd.V_alloc | apply Kd.V_drewN | apply Kd.V_drew)); exact Kd.V_mono HO_1.out (fun _ hk => ⟨hk.1.1, ⟨hk.1.2.1, ⟨hk.2, hk.1.2.2⟩⟩⟩)⟩, ⟨by (with_reducible repeat (first | apply Kd.V_alloc | apply Kd.V_drewN | apply Kd.V_drew)); exact Kd.V_mono HO_2.out (fun _ hk => ⟨hk.1.1, ⟨hk.1.2.1, ⟨hk.2, hk.1.2.2⟩⟩⟩)⟩, ⟨by (with_reducible repeat (first | apply Kd.R_alloc | apply Kd.R_drewN | apply Kd.R_drew)); exact HO_7.out⟩, ⟨by (with_reducible repeat (first | apply Kd.R_alloc | apply Kd.R_drewN | apply Kd.R_drew)); exact HO294.out⟩, ⟨by (with_reducible repeat (first | apply Kd.R_alloc | apply Kd.R_drewN | apply Kd.R_drew)); exact HO_17.out⟩, ⟨by repeat (first | (with_reducible first | exact HB.out | apply below_alloc | apply pw_below_drewN | apply below_drew1) | exact HB.out)⟩⟩
          ·
           rw [if_neg c62] at H
           exact absurd H (by simp)
         ·
          rw [if_neg c61] at H
          have c61b0 : (a0 == 3) = false := beq_eq_false_iff_ne.mpr c61
          have c61b1 : (a0 != 3) = true := bne_iff_ne.mpr c61
          by_cases c66 : x8_1.length < 140737488355328
          ·
           rw [if_pos c66] at H
           have LMc66 := Aside0.mk c66
           clear c66
           obtain ⟨y295, hy295⟩ : ∃ y_ : List Bool, y_ = (x8_1 ++ [false]) := ⟨_, rfl⟩
           replace H : (q10z.l0 k1 a0 l1 l2 t259 y295 t259 (t259.length : Int) (wrap64 (x19_1 + 1))) = some r := by first | (rw [hy295]; with_reducible exact H) | (have H2_ := (Option.bind_some _ _).symm.trans H; rw [hy295]; with_reducible exact H2_) | (have H2_ := (Option.bind_some _ _).symm.trans H; with_reducible exact H2_) | with_reducible exact H | (rw [hy295]; exact H) | exact H
           have Ny295 := Aside0.mk hy295
           clear hy295
           have H' := Aside0.mk H
           clear H
           have p262 : 0 ≤ (x19_1 : Int) := of_decide_eq_true (by first | (with_reducible assumption) | assumption)
           have q262 : x19_1 < (t259.length : Int) := of_decide_eq_true (by first | (with_reducible assumption) | assumption)
           obtain ⟨ad262, e262, hx262_0⟩ := Kd.at_int (Kd.R_reads' HO_17.out).2.2 x19_1 p262 q262
           cases e262
           replace p262 := eq_true p262
           replace q262 := eq_true q262
           go_wp2_with (first | ((with_reducible refine gate_callee (f := 17) rfl ?_); refine goesL_ (some 25) rfl rfl Try.func17 (by kernel_rfl) rfl #[.slice A1 l1.length c1, .int .u32 (rd t259 x19_1)] rfl (by (try simp only [List.map_toArray, List.map_cons, List.map_nil]); first | done | rfl | (simp only [List.length_drop, List.length_take]; rfl)) ?_; (with_reducible refine (q5z.calls k1 _ _ l1 (rd t259 x19_1) false _ ?side1 ?side2 A13.out).mono ?_); (case side1 => repeat (first | exact (Kd.V_reads' HO_1.out).2.2 | (with_reducible refine Kd.C_alloc ?_ _) | (with_reducible refine Kd.C_drewN ?_ _) | (with_reducible refine Kd.C_drew ?_))); (case side2 => exact (Kd.V_reads' HO_1.out).2.1); rintro e w67 ⟨rfl, hb⟩; refine ⟨_, rfl, ?_⟩; have n0_ := Aside0.mk (Kd.V_below (by (with_reducible repeat (first | apply Kd.V_alloc | apply Kd.V_drewN | apply Kd.V_drew)); exact HO_1.out) hb); have n1_ := Aside0.mk (Kd.V_below (by (with_reducible repeat (first | apply Kd.V_alloc | apply Kd.V_drewN | apply Kd.V_drew)); exact HO_2.out) hb); have n2_ := Aside0.mk (Kd.R_below (by (with_reducible repeat (first | apply Kd.R_alloc | apply Kd.R_drewN | apply Kd.R_drew)); exact HO_7.out) hb); have n3_ := Aside0.mk (Kd.R_below (by (with_reducible repeat (first | apply Kd.R_alloc | apply Kd.R_drewN | apply Kd.R_drew)); exact HO_8.out) hb); have n4_ := Aside0.mk (Kd.R_below (by (with_reducible repeat (first | apply Kd.R_alloc | apply Kd.R_drewN | apply Kd.R_drew)); exact HO_17.out) hb); have n5_ := Aside0.mk (below_step (by repeat (first | (with_reducible first | exact HB.out | apply below_alloc | apply pw_below_drewN | apply below_drew1) | exact HB.out)) hb); clear HO_1; clear HO_2; clear HO_7; clear HO_8; clear HO_17; clear HB; have HO_1 := n0_; have HO_2 := n1_; have HO_7 := n2_; have HO_8 := n3_; have HO_17 := n4_; have HB := n5_; clear n0_ n1_ n2_ n3_ n4_ n5_; (try clear hb); (try clear hb2); (try clear hk); (try clear hi)) | ((with_reducible refine gate_callee (f := 17) rfl ?_); refine goesL_ (some 28) rfl rfl Try.func17 (by kernel_rfl) rfl #[.slice A2 l2.length c2, .int .u32 (rd t259 x19_1)] rfl (by (try simp only [List.map_toArray, List.map_cons, List.map_nil]); first | done | rfl | (simp only [List.length_drop, List.length_take]; rfl)) ?_; (with_reducible refine (q5z.calls k1 _ _ l2 (rd t259 x19_1) t264 _ ?side1 ?side2 A14.out).mono ?_); (case side1 => repeat (first | exact (Kd.V_reads' HO_2.out).2.2 | (with_reducible refine Kd.C_alloc ?_ _) | (with_reducible refine Kd.C_drewN ?_ _) | (with_reducible refine Kd.C_drew ?_))); (case side2 => exact (Kd.V_reads' HO_2.out).2.1); rintro e w68 ⟨rfl, hb⟩; refine ⟨_, rfl, ?_⟩; have n0_ := Aside0.mk (Kd.V_below (by (with_reducible repeat (first | apply Kd.V_alloc | apply Kd.V_drewN | apply Kd.V_drew)); exact HO_1.out) hb); have n1_ := Aside0.mk (Kd.V_below (by (with_reducible repeat (first | apply Kd.V_alloc | apply Kd.V_drewN | apply Kd.V_drew)); exact HO_2.out) hb); have n2_ := Aside0.mk (Kd.R_below (by (with_reducible repeat (first | apply Kd.R_alloc | apply Kd.R_drewN | apply Kd.R_drew)); exact HO_7.out) hb); have n3_ := Aside0.mk (Kd.R_below (by (with_reducible repeat (first | apply Kd.R_alloc | apply Kd.R_drewN | apply Kd.R_drew)); exact HO_8.out) hb); have n4_ := Aside0.mk (Kd.R_below (by (with_reducible repeat (first | apply Kd.R_alloc | apply Kd.R_drewN | apply Kd.R_drew)); exact HO_17.out) hb); have n5_ := Aside0.mk (below_step (by repeat (first | (with_reducible first | exact HB.out | apply below_alloc | apply pw_below_drewN | apply below_drew1) | exact HB.out)) hb); clear HO_1; clear HO_2; clear HO_7; clear HO_8; clear HO_17; clear HB; have HO_1 := n0_; have HO_2 := n1_; have HO_7 := n2_; have HO_8 := n3_; have HO_17 := n4_; have HB := n5_; clear n0_ n1_ n2_ n3_ n4_ n5_; (try clear hb); (try clear hb2); (try clear hk); (try clear hi)) | ((with_reducible refine gate_builtin (b := .append) (xs := #[.tmp 29, .tmp 56]) rfl ?_); at_builtin; refine Kd.R_append Kd.bool (w0 := w) w.heap.size rfl (.tmp 29) (.tmp 56) 48 4 (.bool false) 1 rfl Try.underlying48 info4 rfl (by decide) (by omega) u8 x8_1 false [.bool false] (fun k_ => (w.heap.size ≤ k_)) (fun _ => False) rfl rfl ?aP (fun _ hk => hk.elim) ?aF ?aO ?aB ?aS ?aL ?_; (case aP => exact rfl); (case aB => exact (by repeat (first | (with_reducible first | exact HB.out | apply below_alloc | apply pw_below_drewN | apply below_drew1) | exact HB.out))); (case aF => exact (fun k_ hk => (Nat.le_trans (below_size (by repeat (first | (with_reducible first | exact HB.out | apply below_alloc | apply pw_below_drewN | apply below_drew1) | exact HB.out))) hk))); (case aO => exact (by (with_reducible repeat (first | apply Kd.R_alloc | apply Kd.R_drewN | apply Kd.R_drew)); exact HO_8.out)); (case aS => exact (below_size (by repeat (first | (with_reducible first | exact HB.out | apply below_alloc | apply pw_below_drewN | apply below_drew1) | exact HB.out)))); (case aL => have := LMc66.out; omega); intro v296 w69 ho hb hg hat; rw [← Ny295.out] at ho; have n0_ := Aside0.mk (Kd.V_afterv (ok := (fun k_ => ((P1_ k_ ∨ P2_ k_) ∨ w.heap.size ≤ k_) ∧ some k_ ≠ (.slice (some ad262) t259.length co9 : Value).ownBlock ∧ some k_ ≠ (.slice (some ad262) t259.length co9 : Value).ownBlock)) (by (with_reducible repeat (first | apply Kd.V_alloc | apply Kd.V_drewN | apply Kd.V_drew)); exact Kd.V_mono HO_1.out (fun _ hk => ⟨⟨hk.1, ⟨hk.2.1, hk.2.2.2⟩⟩, hk.2.2.1⟩)) hg hat); have n1_ := Aside0.mk (Kd.V_afterv (ok := (fun k_ => ((P1_ k_ ∨ P2_ k_) ∨ w.heap.size ≤ k_) ∧ some k_ ≠ (.slice (some ad262) t259.length co9 : Value).ownBlock ∧ some k_ ≠ (.slice (some ad262) t259.length co9 : Value).ownBlock)) (by (with_reducible repeat (first | apply Kd.V_alloc | apply Kd.V_drewN | apply Kd.V_drew)); exact Kd.V_mono HO_2.out (fun _ hk => ⟨⟨hk.1, ⟨hk.2.1, hk.2.2.2⟩⟩, hk.2.2.1⟩)) hg hat); have n2_ := Aside0.mk (Kd.R_over' (by (with_reducible repeat (first | apply Kd.R_alloc | apply Kd.R_drewN | apply Kd.R_drew)); exact HO_7.out) (Kd.R_typed (by (with_reducible repeat (first | apply Kd.R_alloc | apply Kd.R_drewN | apply Kd.R_drew)); exact HO_8.out)) (by decide) hg); have n3_ := Aside0.mk (Kd.R_over' (by (with_reducible repeat (first | apply Kd.R_alloc | apply Kd.R_drewN | apply Kd.R_drew)); exact HO_17.out) (Kd.R_typed (by (with_reducible repeat (first | apply Kd.R_alloc | apply Kd.R_drewN | apply Kd.R_drew)); exact HO_8.out)) (by decide) hg); have n4_ := Aside0.mk (hb); have n5_ := Aside0.mk (ho); clear HO_1; clear HO_2; clear HO_7; clear HO_17; clear HB; clear HO_8; have HO_1 := n0_; have HO_2 := n1_; have HO_7 := n2_; have HO_17 := n3_; have HB := n4_; have HO297 := n5_; clear n0_ n1_ n2_ n3_ n4_ n5_; clear ho hb hg hat))
           go_roundg k1
           case measure => have := HK1.out; omega
           case rel => exact ⟨(y295), (wrap64 (x19_1 + 1)), (by first | rfl | (simp; done) | (simp [*]; done)), H', ⟨by have := HK1.out; omega⟩, ⟨by (with_reducible repeat (first | apply Kd.V_alloc | apply Kd.V_drewN | apply Kd.V_drew)); exact Kd.V_mono HO_1.out (fun _ hk => ⟨hk.1.1, ⟨hk.1.2.1, ⟨hk.2, hk.1.2.2⟩⟩⟩)⟩, ⟨by (with_reducible repeat (first | apply Kd.V_alloc | apply Kd.V_drewN | apply Kd.V_drew)); exact Kd.V_mono HO_2.out (fun _ hk => ⟨hk.1.1, ⟨hk.1.2.1, ⟨hk.2, hk.1.2.2⟩⟩⟩)⟩, ⟨by (with_reducible repeat (first | apply Kd.R_alloc | apply Kd.R_drewN | apply Kd.R_drew)); exact HO_7.out⟩, ⟨by (with_reducible repeat (first | apply Kd.R_alloc | apply Kd.R_drewN | apply Kd.R_drew)); exact HO297.out⟩, ⟨by (with_reducible repeat (first | apply Kd.R_alloc | apply Kd.R_drewN | apply Kd.R_drew)); exact HO_17.out⟩, ⟨by repeat (first | (with_reducible first | exact HB.out | apply below_alloc | apply pw_below_drewN | apply below_drew1) | exact HB.out)⟩⟩
          ·
           rw [if_neg c66] at H
           exact absurd H (by simp)
       ·
        rw [if_neg c45] at H
        have c45b0 : (a0 == 2) = false := beq_eq_false_iff_ne.mpr c45
        have c45b1 : (a0 != 2) = true := bne_iff_ne.mpr c45
        by_cases c70 : a0 = 3
        ·
         rw [if_pos c70] at H
         have c70b0 : (a0 == 3) = true := beq_iff_eq.mpr c70
         have c70b1 : (a0 != 3) = false := bne_eq_false_iff_eq.mpr c70
         clear c70
         by_cases c71 : x8_1.length < 140737488355328
         ·
          rw [if_pos c71] at H
          have LMc71 := Aside0.mk c71
          clear c71
          obtain ⟨y298, hy298⟩ : ∃ y_ : List Bool, y_ = (x8_1 ++ [!t263]) := ⟨_, rfl⟩
          replace H : (q10z.l0 k1 a0 l1 l2 t259 y298 t259 (t259.length : Int) (wrap64 (x19_1 + 1))) = some r := by first | (rw [hy298]; with_reducible exact H) | (have H2_ := (Option.bind_some _ _).symm.trans H; rw [hy298]; with_reducible exact H2_) | (have H2_ := (Option.bind_some _ _).symm.trans H; with_reducible exact H2_) | with_reducible exact H | (rw [hy298]; exact H) | exact H
          have Ny298 := Aside0.mk hy298
          clear hy298
          have H' := Aside0.mk H
          clear H
          have p262 : 0 ≤ (x19_1 : Int) := of_decide_eq_true (by first | (with_reducible assumption) | assumption)
          have q262 : x19_1 < (t259.length : Int) := of_decide_eq_true (by first | (with_reducible assumption) | assumption)
          obtain ⟨ad262, e262, hx262_0⟩ := Kd.at_int (Kd.R_reads' HO_17.out).2.2 x19_1 p262 q262
          cases e262
          replace p262 := eq_true p262
          replace q262 := eq_true q262
          go_wp2_with (first | ((with_reducible refine gate_callee (f := 17) rfl ?_); refine goesL_ (some 25) rfl rfl Try.func17 (by kernel_rfl) rfl #[.slice A1 l1.length c1, .int .u32 (rd t259 x19_1)] rfl (by (try simp only [List.map_toArray, List.map_cons, List.map_nil]); first | done | rfl | (simp only [List.length_drop, List.length_take]; rfl)) ?_; (with_reducible refine (q5z.calls k1 _ _ l1 (rd t259 x19_1) t263 _ ?side1 ?side2 A13.out).mono ?_); (case side1 => repeat (first | exact (Kd.V_reads' HO_1.out).2.2 | (with_reducible refine Kd.C_alloc ?_ _) | (with_reducible refine Kd.C_drewN ?_ _) | (with_reducible refine Kd.C_drew ?_))); (case side2 => exact (Kd.V_reads' HO_1.out).2.1); rintro e w72 ⟨rfl, hb⟩; refine ⟨_, rfl, ?_⟩; have n0_ := Aside0.mk (Kd.V_below (by (with_reducible repeat (first | apply Kd.V_alloc | apply Kd.V_drewN | apply Kd.V_drew)); exact HO_1.out) hb); have n1_ := Aside0.mk (Kd.V_below (by (with_reducible repeat (first | apply Kd.V_alloc | apply Kd.V_drewN | apply Kd.V_drew)); exact HO_2.out) hb); have n2_ := Aside0.mk (Kd.R_below (by (with_reducible repeat (first | apply Kd.R_alloc | apply Kd.R_drewN | apply Kd.R_drew)); exact HO_7.out) hb); have n3_ := Aside0.mk (Kd.R_below (by (with_reducible repeat (first | apply Kd.R_alloc | apply Kd.R_drewN | apply Kd.R_drew)); exact HO_8.out) hb); have n4_ := Aside0.mk (Kd.R_below (by (with_reducible repeat (first | apply Kd.R_alloc | apply Kd.R_drewN | apply Kd.R_drew)); exact HO_17.out) hb); have n5_ := Aside0.mk (below_step (by repeat (first | (with_reducible first | exact HB.out | apply below_alloc | apply pw_below_drewN | apply below_drew1) | exact HB.out)) hb); clear HO_1; clear HO_2; clear HO_7; clear HO_8; clear HO_17; clear HB; have HO_1 := n0_; have HO_2 := n1_; have HO_7 := n2_; have HO_8 := n3_; have HO_17 := n4_; have HB := n5_; clear n0_ n1_ n2_ n3_ n4_ n5_; (try clear hb); (try clear hb2); (try clear hk); (try clear hi)) | ((with_reducible refine gate_callee (f := 17) rfl ?_); refine goesL_ (some 28) rfl rfl Try.func17 (by kernel_rfl) rfl #[.slice A2 l2.length c2, .int .u32 (rd t259 x19_1)] rfl (by (try simp only [List.map_toArray, List.map_cons, List.map_nil]); first | done | rfl | (simp only [List.length_drop, List.length_take]; rfl)) ?_; (with_reducible refine (q5z.calls k1 _ _ l2 (rd t259 x19_1) t264 _ ?side1 ?side2 A14.out).mono ?_); (case side1 => repeat (first | exact (Kd.V_reads' HO_2.out).2.2 | (with_reducible refine Kd.C_alloc ?_ _) | (with_reducible refine Kd.C_drewN ?_ _) | (with_reducible refine Kd.C_drew ?_))); (case side2 => exact (Kd.V_reads' HO_2.out).2.1); rintro e w73 ⟨rfl, hb⟩; refine ⟨_, rfl, ?_⟩; have n0_ := Aside0.mk (Kd.V_below (by (with_reducible repeat (first | apply Kd.V_alloc | apply Kd.V_drewN | apply Kd.V_drew)); exact HO_1.out) hb); have n1_ := Aside0.mk (Kd.V_below (by (with_reducible repeat (first | apply Kd.V_alloc | apply Kd.V_drewN | apply Kd.V_drew)); exact HO_2.out) hb); have n2_ := Aside0.mk (Kd.R_below (by (with_reducible repeat (first | apply Kd.R_alloc | apply Kd.R_drewN | apply Kd.R_drew)); exact HO_7.out) hb); have n3_ := Aside0.mk (Kd.R_below (by (with_reducible repeat (first | apply Kd.R_alloc | apply Kd.R_drewN | apply Kd.R_drew)); exact HO_8.out) hb); have n4_ := Aside0.mk (Kd.R_below (by (with_reducible repeat (first | apply Kd.R_alloc | apply Kd.R_drewN | apply Kd.R_drew)); exact HO_17.out) hb); have n5_ := Aside0.mk (below_step (by repeat (first | (with_reducible first | exact HB.out | apply below_alloc | apply pw_below_drewN | apply below_drew1) | exact HB.out)) hb); clear HO_1; clear HO_2; clear HO_7; clear HO_8; clear HO_17; clear HB; have HO_1 := n0_; have HO_2 := n1_; have HO_7 := n2_; have HO_8 := n3_; have HO_17 := n4_; have HB := n5_; clear n0_ n1_ n2_ n3_ n4_ n5_; (try clear hb); (try clear hb2); (try clear hk); (try clear hi)) | ((with_reducible refine gate_builtin (b := .append) (xs := #[.tmp 29, .tmp 56]) rfl ?_); at_builtin; refine Kd.R_append Kd.bool (w0 := w) w.heap.size rfl (.tmp 29) (.tmp 56) 48 4 (.bool false) 1 rfl Try.underlying48 info4 rfl (by decide) (by omega) u8 x8_1 (!t263) [.bool (!t263)] (fun k_ => (w.heap.size ≤ k_)) (fun _ => False) rfl rfl ?aP (fun _ hk => hk.elim) ?aF ?aO ?aB ?aS ?aL ?_; (case aP => exact rfl); (case aB => exact (by repeat (first | (with_reducible first | exact HB.out | apply below_alloc | apply pw_below_drewN | apply below_drew1) | exact HB.out))); (case aF => exact (fun k_ hk => (Nat.le_trans (below_size (by repeat (first | (with_reducible first | exact HB.out | apply below_alloc | apply pw_below_drewN | apply below_drew1) | exact HB.out))) hk))); (case aO => exact (by (with_reducible repeat (first | apply Kd.R_alloc | apply Kd.R_drewN | apply Kd.R_drew)); exact HO_8.out)); (case aS => exact (below_size (by repeat (first | (with_reducible first | exact HB.out | apply below_alloc | apply pw_below_drewN | apply below_drew1) | exact HB.out)))); (case aL => have := LMc71.out; omega); intro v299 w74 ho hb hg hat; rw [← Ny298.out] at ho; have n0_ := Aside0.mk (Kd.V_afterv (ok := (fun k_ => ((P1_ k_ ∨ P2_ k_) ∨ w.heap.size ≤ k_) ∧ some k_ ≠ (.slice (some ad262) t259.length co9 : Value).ownBlock ∧ some k_ ≠ (.slice (some ad262) t259.length co9 : Value).ownBlock)) (by (with_reducible repeat (first | apply Kd.V_alloc | apply Kd.V_drewN | apply Kd.V_drew)); exact Kd.V_mono HO_1.out (fun _ hk => ⟨⟨hk.1, ⟨hk.2.1, hk.2.2.2⟩⟩, hk.2.2.1⟩)) hg hat); have n1_ := Aside0.mk (Kd.V_afterv (ok := (fun k_ => ((P1_ k_ ∨ P2_ k_) ∨ w.heap.size ≤ k_) ∧ some k_ ≠ (.slice (some ad262) t259.length co9 : Value).ownBlock ∧ some k_ ≠ (.slice (some ad262) t259.length co9 : Value).ownBlock)) (by (with_reducible repeat (first | apply Kd.V_alloc | apply Kd.V_drewN | apply Kd.V_drew)); exact Kd.V_mono HO_2.out (fun _ hk => ⟨⟨hk.1, ⟨hk.2.1, hk.2.2.2⟩⟩, hk.2.2.1⟩)) hg hat); have n2_ := Aside0.mk (Kd.R_over' (by (with_reducible repeat (first | apply Kd.R_alloc | apply Kd.R_drewN | apply Kd.R_drew)); exact HO_7.out) (Kd.R_typed (by (with_reducible repeat (first | apply Kd.R_alloc | apply Kd.R_drewN | apply Kd.R_drew)); exact HO_8.out)) (by decide) hg); have n3_ := Aside0.mk (Kd.R_over' (by (with_reducible repeat (first | apply Kd.R_alloc | apply Kd.R_drewN | apply Kd.R_drew)); exact HO_17.out) (Kd.R_typed (by (with_reducible repeat (first | apply Kd.R_alloc | apply Kd.R_drewN | apply Kd.R_drew)); exact HO_8.out)) (by decide) hg); have n4_ := Aside0.mk (hb); have n5_ := Aside0.mk (ho); clear HO_1; clear HO_2; clear HO_7; clear HO_17; clear HB; clear HO_8; have HO_1 := n0_; have HO_2 := n1_; have HO_7 := n2_; have HO_17 := n3_; have HB := n4_; have HO300 := n5_; clear n0_ n1_ n2_ n3_ n4_ n5_; clear ho hb hg hat))
          go_roundg k1
          case measure => have := HK1.out; omega
          case rel => exact ⟨(y298), (wrap64 (x19_1 + 1)), (by first | rfl | (simp; done) | (simp [*]; done)), H', ⟨by have := HK1.out; omega⟩, ⟨by (with_reducible repeat (first | apply Kd.V_alloc | apply Kd.V_drewN | apply Kd.V_drew)); exact Kd.V_mono HO_1.out (fun _ hk => ⟨hk.1.1, ⟨hk.1.2.1, ⟨hk.2, hk.1.2.2⟩⟩⟩)⟩, ⟨by (with_reducible repeat (first | apply Kd.V_alloc | apply Kd.V_drewN | apply Kd.V_drew)); exact Kd.V_mono HO_2.out (fun _ hk => ⟨hk.1.1, ⟨hk.1.2.1, ⟨hk.2, hk.1.2.2⟩⟩⟩)⟩, ⟨by (with_reducible repeat (first | apply Kd.R_alloc | apply Kd.R_drewN | apply Kd.R_drew)); exact HO_7.out⟩, ⟨by (with_reducible repeat (first | apply Kd.R_alloc | apply Kd.R_drewN | apply Kd.R_drew)); exact HO300.out⟩, ⟨by (with_reducible repeat (first | apply Kd.R_alloc | apply Kd.R_drewN | apply Kd.R_drew)); exact HO_17.out⟩, ⟨by repeat (first | (with_reducible first | exact HB.out | apply below_alloc | apply pw_below_drewN | apply below_drew1) | exact HB.out)⟩⟩
         ·
          rw [if_neg c71] at H
          exact absurd H (by simp)
        ·
         rw [if_neg c70] at H
         have c70b0 : (a0 == 3) = false := beq_eq_false_iff_ne.mpr c70
         have c70b1 : (a0 != 3) = true := bne_iff_ne.mpr c70
         by_cases c75 : x8_1.length < 140737488355328
         ·
          rw [if_pos c75] at H
          have LMc75 := Aside0.mk c75
          clear c75
          obtain ⟨y301, hy301⟩ : ∃ y_ : List Bool, y_ = (x8_1 ++ [false]) := ⟨_, rfl⟩
          replace H : (q10z.l0 k1 a0 l1 l2 t259 y301 t259 (t259.length : Int) (wrap64 (x19_1 + 1))) = some r := by first | (rw [hy301]; with_reducible exact H) | (have H2_ := (Option.bind_some _ _).symm.trans H; rw [hy301]; with_reducible exact H2_) | (have H2_ := (Option.bind_some _ _).symm.trans H; with_reducible exact H2_) | with_reducible exact H | (rw [hy301]; exact H) | exact H
          have Ny301 := Aside0.mk hy301
          clear hy301
          have H' := Aside0.mk H
          clear H
          have p262 : 0 ≤ (x19_1 : Int) := of_decide_eq_true (by first | (with_reducible assumption) | assumption)
          have q262 : x19_1 < (t259.length : Int) := of_decide_eq_true (by first | (with_reducible assumption) | assumption)
          obtain ⟨ad262, e262, hx262_0⟩ := Kd.at_int (Kd.R_reads' HO_17.out).2.2 x19_1 p262 q262
          cases e262
          replace p262 := eq_true p262
          replace q262 := eq_true q262
          go_wp2_with (first | ((with_reducible refine gate_callee (f := 17) rfl ?_); refine goesL_ (some 25) rfl rfl Try.func17 (by kernel_rfl) rfl #[.slice A1 l1.length c1, .int .u32 (rd t259 x19_1)] rfl (by (try simp only [List.map_toArray, List.map_cons, List.map_nil]); first | done | rfl | (simp only [List.length_drop, List.length_take]; rfl)) ?_; (with_reducible refine (q5z.calls k1 _ _ l1 (rd t259 x19_1) t263 _ ?side1 ?side2 A13.out).mono ?_); (case side1 => repeat (first | exact (Kd.V_reads' HO_1.out).2.2 | (with_reducible refine Kd.C_alloc ?_ _) | (with_reducible refine Kd.C_drewN ?_ _) | (with_reducible refine Kd.C_drew ?_))); (case side2 => exact (Kd.V_reads' HO_1.out).2.1); rintro e w76 ⟨rfl, hb⟩; refine ⟨_, rfl, ?_⟩; have n0_ := Aside0.mk (Kd.V_below (by (with_reducible repeat (first | apply Kd.V_alloc | apply Kd.V_drewN | apply Kd.V_drew)); exact HO_1.out) hb); have n1_ := Aside0.mk (Kd.V_below (by (with_reducible repeat (first | apply Kd.V_alloc | apply Kd.V_drewN | apply Kd.V_drew)); exact HO_2.out) hb); have n2_ := Aside0.mk (Kd.R_below (by (with_reducible repeat (first | apply Kd.R_alloc | apply Kd.R_drewN | apply Kd.R_drew)); exact HO_7.out) hb); have n3_ := Aside0.mk (Kd.R_below (by (with_reducible repeat (first | apply Kd.R_alloc | apply Kd.R_drewN | apply Kd.R_drew)); exact HO_8.out) hb); have n4_ := Aside0.mk (Kd.R_below (by (with_reducible repeat (first | apply Kd.R_alloc | apply Kd.R_drewN | apply Kd.R_drew)); exact HO_17.out) hb); have n5_ := Aside0.mk (below_step (by repeat (first | (with_reducible first | exact HB.out | apply below_alloc | apply pw_below_drewN | apply below_drew1) | exact HB.out)) hb); clear HO_1; clear HO_2; clear HO_7; clear HO_8; clear HO_17; clear HB; have HO_1 := n0_; have HO_2 := n1_; have HO_7 := n2_; have HO_8 := n3_; have HO_17 := n4_; have HB := n5_; clear n0_ n1_ n2_ n3_ n4_ n5_; (try clear hb); (try clear hb2); (try clear hk); (try clear hi)) | ((with_reducible refine gate_callee (f := 17) rfl ?_); refine goesL_ (some 28) rfl rfl Try.func17 (by kernel_rfl) rfl #[.slice A2 l2.length c2, .int .u32 (rd t259 x19_1)] rfl (by (try simp only [List.map_toArray, List.map_cons, List.map_nil]); first | done | rfl | (simp only [List.length_drop, List.length_take]; rfl)) ?_; (with_reducible refine (q5z.calls k1 _ _ l2 (rd t259 x19_1) t264 _ ?side1 ?side2 A14.out).mono ?_); (case side1 => repeat (first | exact (Kd.V_reads' HO_2.out).2.2 | (with_reducible refine Kd.C_alloc ?_ _) | (with_reducible refine Kd.C_drewN ?_ _) | (with_reducible refine Kd.C_drew ?_))); (case side2 => exact (Kd.V_reads' HO_2.out).2.1); rintro e w77 ⟨rfl, hb⟩; refine ⟨_, rfl, ?_⟩; have n0_ := Aside0.mk (Kd.V_below (by (with_reducible repeat (first | apply Kd.V_alloc | apply Kd.V_drewN | apply Kd.V_drew)); exact HO_1.out) hb); have n1_ := Aside0.mk (Kd.V_below (by (with_reducible repeat (first | apply Kd.V_alloc | apply Kd.V_drewN | apply Kd.V_drew)); exact HO_2.out) hb); have n2_ := Aside0.mk (Kd.R_below (by (with_reducible repeat (first | apply Kd.R_alloc | apply Kd.R_drewN | apply Kd.R_drew)); exact HO_7.out) hb); have n3_ := Aside0.mk (Kd.R_below (by (with_reducible repeat (first | apply Kd.R_alloc | apply Kd.R_drewN | apply Kd.R_drew)); exact HO_8.out) hb); have n4_ := Aside0.mk (Kd.R_below (by (with_reducible repeat (first | apply Kd.R_alloc | apply Kd.R_drewN | apply Kd.R_drew)); exact HO_17.out) hb); have n5_ := Aside0.mk (below_step (by repeat (first | (with_reducible first | exact HB.out | apply below_alloc | apply pw_below_drewN | apply below_drew1) | exact HB.out)) hb); clear HO_1; clear HO_2; clear HO_7; clear HO_8; clear HO_17; clear HB; have HO_1 := n0_; have HO_2 := n1_; have HO_7 := n2_; have HO_8 := n3_; have HO_17 := n4_; have HB := n5_; clear n0_ n1_ n2_ n3_ n4_ n5_; (try clear hb); (try clear hb2); (try clear hk); (try clear hi)) | ((with_reducible refine gate_builtin (b := .append) (xs := #[.tmp 29, .tmp 56]) rfl ?_); at_builtin; refine Kd.R_append Kd.bool (w0 := w) w.heap.size rfl (.tmp 29) (.tmp 56) 48 4 (.bool false) 1 rfl Try.underlying48 info4 rfl (by decide) (by omega) u8 x8_1 false [.bool false] (fun k_ => (w.heap.size ≤ k_)) (fun _ => False) rfl rfl ?aP (fun _ hk => hk.elim) ?aF ?aO ?aB ?aS ?aL ?_; (case aP => exact rfl); (case aB => exact (by repeat (first | (with_reducible first | exact HB.out | apply below_alloc | apply pw_below_drewN | apply below_drew1) | exact HB.out))); (case aF => exact (fun k_ hk => (Nat.le_trans (below_size (by repeat (first | (with_reducible first | exact HB.out | apply below_alloc | apply pw_below_drewN | apply below_drew1) | exact HB.out))) hk))); (case aO => exact (by (with_reducible repeat (first | apply Kd.R_alloc | apply Kd.R_drewN | apply Kd.R_drew)); exact HO_8.out)); (case aS => exact (below_size (by repeat (first | (with_reducible first | exact HB.out | apply below_alloc | apply pw_below_drewN | apply below_drew1) | exact HB.out)))); (case aL => have := LMc75.out; omega); intro v302 w78 ho hb hg hat; rw [← Ny301.out] at ho; have n0_ := Aside0.mk (Kd.V_afterv (ok := (fun k_ => ((P1_ k_ ∨ P2_ k_) ∨ w.heap.size ≤ k_) ∧ some k_ ≠ (.slice (some ad262) t259.length co9 : Value).ownBlock ∧ some k_ ≠ (.slice (some ad262) t259.length co9 : Value).ownBlock)) (by (with_reducible repeat (first | apply Kd.V_alloc | apply Kd.V_drewN | apply Kd.V_drew)); exact Kd.V_mono HO_1.out (fun _ hk => ⟨⟨hk.1, ⟨hk.2.1, hk.2.2.2⟩⟩, hk.2.2.1⟩)) hg hat); have n1_ := Aside0.mk (Kd.V_afterv (ok := (fun k_ => ((P1_ k_ ∨ P2_ k_) ∨ w.heap.size ≤ k_) ∧ some k_ ≠ (.slice (some ad262) t259.length co9 : Value).ownBlock ∧ some k_ ≠ (.slice (some ad262) t259.length co9 : Value).ownBlock)) (by (with_reducible repeat (first | apply Kd.V_alloc | apply Kd.V_drewN | apply Kd.V_drew)); exact Kd.V_mono HO_2.out (fun _ hk => ⟨⟨hk.1, ⟨hk.2.1, hk.2.2.2⟩⟩, hk.2.2.1⟩)) hg hat); have n2_ := Aside0.mk (Kd.R_over' (by (with_reducible repeat (first | apply Kd.R_alloc | apply Kd.R_drewN | apply Kd.R_drew)); exact HO_7.out) (Kd.R_typed (by (with_reducible repeat (first | apply Kd.R_alloc | apply Kd.R_drewN | apply Kd.R_drew)); exact HO_8.out)) (by decide) hg); have n3_ := Aside0.mk (Kd.R_over' (by (with_reducible repeat (first | apply Kd.R_alloc | apply Kd.R_drewN | apply Kd.R_drew)); exact HO_17.out) (Kd.R_typed (by (with_reducible repeat (first | apply Kd.R_alloc | apply Kd.R_drewN | apply Kd.R_drew)); exact HO_8.out)) (by decide) hg); have n4_ := Aside0.mk (hb); have n5_ := Aside0.mk (ho); clear HO_1; clear HO_2; clear HO_7; clear HO_17; clear HB; clear HO_8; have HO_1 := n0_; have HO_2 := n1_; have HO_7 := n2_; have HO_17 := n3_; have HB := n4_; have HO303 := n5_; clear n0_ n1_ n2_ n3_ n4_ n5_; clear ho hb hg hat))
          go_roundg k1
          case measure => have := HK1.out; omega
          case rel => exact ⟨(y301), (wrap64 (x19_1 + 1)), (by first | rfl | (simp; done) | (simp [*]; done)), H', ⟨by have := HK1.out; omega⟩, ⟨by (with_reducible repeat (first | apply Kd.V_alloc | apply Kd.V_drewN | apply Kd.V_drew)); exact Kd.V_mono HO_1.out (fun _ hk => ⟨hk.1.1, ⟨hk.1.2.1, ⟨hk.2, hk.1.2.2⟩⟩⟩)⟩, ⟨by (with_reducible repeat (first | apply Kd.V_alloc | apply Kd.V_drewN | apply Kd.V_drew)); exact Kd.V_mono HO_2.out (fun _ hk => ⟨hk.1.1, ⟨hk.1.2.1, ⟨hk.2, hk.1.2.2⟩⟩⟩)⟩, ⟨by (with_reducible repeat (first | apply Kd.R_alloc | apply Kd.R_drewN | apply Kd.R_drew)); exact HO_7.out⟩, ⟨by (with_reducible repeat (first | apply Kd.R_alloc | apply Kd.R_drewN | apply Kd.R_drew)); exact HO303.out⟩, ⟨by (with_reducible repeat (first | apply Kd.R_alloc | apply Kd.R_drewN | apply Kd.R_drew)); exact HO_17.out⟩, ⟨by repeat (first | (with_reducible first | exact HB.out | apply below_alloc | apply pw_below_drewN | apply below_drew1) | exact HB.out)⟩⟩
         ·
          rw [if_neg c75] at H
          exact absurd H (by simp)
     ·
      rw [if_neg c12] at H
      exact absurd H (by simp)
    ·
     rw [if_neg c11] at H
     exact absurd H (by simp)
   ·
    rw [if_neg c10] at H
    have c10b0 : decide (x19_1 < (t259.length : Int)) = false := decide_eq_false c10
    clear c10
    replace H := Option.bind_eq_some_iff.mp H
    obtain ⟨t304, A790, H⟩ := H
    replace H : (some t304) = some r := H
    have A79 := Aside0.mk A790
    clear A790
    obtain rfl := Option.some.inj H
    obtain ⟨Ao80, co80, eo80⟩ := Kd.R_slice HO_8.out
    subst eo80
    go_wp2_with (first | ((with_reducible refine gate_callee (f := 32) rfl ?_); refine goesL_ (some 61) rfl rfl Try.func32 (by kernel_rfl) rfl #[.slice Ao9 t259.length co9, .slice Ao80 x8_1.length co80] rfl (by (try simp only [List.map_toArray, List.map_cons, List.map_nil]); first | done | rfl | (simp only [List.length_drop, List.length_take]; rfl)) ?_; (with_reducible refine (q9z.calls k1 _ _ t259 _ _ x8_1 t304 _ ?side1 ?side2 ?side3 ?side4 A79.out).mono ?_); (case side1 => repeat (first | exact (Kd.R_reads' HO_7.out).2.2 | (with_reducible refine Kd.C_alloc ?_ _) | (with_reducible refine Kd.C_drewN ?_ _) | (with_reducible refine Kd.C_drew ?_))); (case side2 => exact (Kd.R_reads' HO_7.out).2.1); (case side3 => repeat (first | exact (Kd.R_reads' HO_8.out).2.2 | (with_reducible refine Kd.C_alloc ?_ _) | (with_reducible refine Kd.C_drewN ?_ _) | (with_reducible refine Kd.C_drew ?_))); (case side4 => exact (Kd.R_reads' HO_8.out).2.1); rintro e w81 ⟨v305, rfl, ho0, hb⟩; refine ⟨_, rfl, ?_⟩; have n0_ := Aside0.mk (Kd.V_elder' (by (with_reducible repeat (first | apply Kd.V_alloc | apply Kd.V_drewN | apply Kd.V_drew)); exact HO_1.out) (Kd.R_base ho0) hb); have n1_ := Aside0.mk (Kd.V_elder' (by (with_reducible repeat (first | apply Kd.V_alloc | apply Kd.V_drewN | apply Kd.V_drew)); exact HO_2.out) (Kd.R_base ho0) hb); have n2_ := Aside0.mk (Kd.R_below (by (with_reducible repeat (first | apply Kd.R_alloc | apply Kd.R_drewN | apply Kd.R_drew)); exact HO_7.out) hb); have n3_ := Aside0.mk (Kd.R_below (by (with_reducible repeat (first | apply Kd.R_alloc | apply Kd.R_drewN | apply Kd.R_drew)); exact HO_8.out) hb); have n4_ := Aside0.mk (Kd.R_below (by (with_reducible repeat (first | apply Kd.R_alloc | apply Kd.R_drewN | apply Kd.R_drew)); exact HO_17.out) hb); have n5_ := Aside0.mk (Kd.R_lower (Kd.R_newM (M := fun k_ => (w.heap.size ≤ k_)) ho0 (below_size (by repeat (first | (with_reducible first | exact HB.out | apply below_alloc | apply pw_below_drewN | apply below_drew1) | exact HB.out))) (fun k_ h_ => h_)) (below_size (by repeat (first | (with_reducible first | exact HB.out | apply below_alloc | apply pw_below_drewN | apply below_drew1) | exact HB.out)))); have n6_ := Aside0.mk (below_step (by repeat (first | (with_reducible first | exact HB.out | apply below_alloc | apply pw_below_drewN | apply below_drew1) | exact HB.out)) hb); clear HO_1; clear HO_2; clear HO_7; clear HO_8; clear HO_17; clear HB; have HO_1 := n0_; have HO_2 := n1_; have HO_7 := n2_; have HO_8 := n3_; have HO_17 := n4_; have HO306 := n5_; have HB := n6_; clear n0_ n1_ n2_ n3_ n4_ n5_ n6_; (try clear hb); (try clear hb2); (try clear hk); (try clear hi); (try clear ho0)))
    go_ret
    exact ⟨_, by first | rfl | (simp [errW_none, errW_some] <;> rfl) | (simp [*, errW_none, errW_some] <;> rfl), by (with_reducible repeat (first | apply Kd.R_alloc | apply Kd.R_drewN | apply Kd.R_drew)); exact Kd.R_mono HO306.out (fun _ hk => hk.1), by repeat (first | (with_reducible first | exact HB.out | apply below_alloc | apply pw_below_drewN | apply below_drew1) | exact HB.out)⟩

end Go.Proofs.Ytconaifcjnpabaa.P

namespace Go.Proofs.Ytconaifcjnpabaa.P
open Go.RowKit Go.Proofs.YtconaifcjnpabaaW.PrintWords Go.Proofs.YtconaifcjnpabaaW.PrintLast Go.Proofs.YtconaifcjnpabaaW.PrintMore
attribute [local go_sem] max2_int min2_int max_two min_two max_three min_three max_four min_four
set_option linter.unusedVariables false
set_option linter.unusedSimpArgs false

/-! ### span_Not: function 21 -/
def q11z.l0 : Nat → List (S33) → Int → List (S33) → Int → Int → Option ((List (S33)))
 | 0, _, _, _, _, _ => none
 | k + 1, x3, x4, x8, x9, x10 => if x10 < x9 then (if 0 ≤ x10 then (if x10 < (x8.length : Int) then (if ((rd_T33 x8 x10).f0) > x4 then (if x3.length < 17592186044416 then ((some (x3 ++ [(⟨x4, (((rd_T33 x8 x10).f0) - 1) % 4294967296⟩ : S33)] : List (S33))).bind fun y159 => (if ((rd_T33 x8 x10).f1) = 4294967295 then (some y159) else (q11z.l0 k y159 ((((rd_T33 x8 x10).f1) + 1) % 4294967296) x8 x9 (wrap64 (x10 + 1))))) else (none)) else (if ((rd_T33 x8 x10).f1) = 4294967295 then (some x3) else (q11z.l0 k x3 ((((rd_T33 x8 x10).f1) + 1) % 4294967296) x8 x9 (wrap64 (x10 + 1))))) else (none)) else (none)) else (if x3.length < 17592186044416 then (some (x3 ++ [(⟨x4, 4294967295⟩ : S33)])) else (none))
def q11z.f (k : Nat) (l0 : List (S33)) : Option ((List (S33))) := (q1z.f k l0).bind fun t151 => (q11z.l0 k ([] : List (S33)) 0 t151 (t151.length : Int) 0)
theorem q11z.mono_l : ∀ k, (∀ y0 y1 y2 y3 y4, LeO (q11z.l0 k y0 y1 y2 y3 y4) (q11z.l0 (k + 1) y0 y1 y2 y3 y4))
 | 0 => fun _ _ _ _ _ r h => by simp [q11z.l0] at h
 | k + 1 => by
  have ih0 := q11z.mono_l k
  ·
   intro y0 y1 y2 y3 y4
   unfold q11z.l0
   repeat' first
   | (with_reducible exact ih0 _ _ _ _ _)
   | (with_reducible exact q1z.mono _ _)
   | (with_reducible exact LeO.refl _)
   | (with_reducible exact LeO.none _)
   | (with_reducible refine LeO.ite ?_ ?_)
   | (with_reducible refine LeO.bind ?_ (fun _ => ?_))
   | exact ih0 _ _ _ _ _
   | exact q1z.mono _ _
   | exact LeO.none _
   | refine LeO.ite ?_ ?_
   | refine LeO.bind ?_ (fun _ => ?_)
theorem q11z.mono : ∀ a0 k, LeO (q11z.f k a0) (q11z.f (k + 1) a0) := by
 intro a0 k
 have ih0 := q11z.mono_l k
 unfold q11z.f
 repeat' first
   | (with_reducible exact ih0 _ _ _ _ _)
   | (with_reducible exact q1z.mono _ _)
   | (with_reducible exact LeO.refl _)
   | (with_reducible exact LeO.none _)
   | (with_reducible refine LeO.ite ?_ ?_)
   | (with_reducible refine LeO.bind ?_ (fun _ => ?_))
   | exact ih0 _ _ _ _ _
   | exact q1z.mono _ _
   | exact LeO.none _
   | refine LeO.ite ?_ ?_
   | refine LeO.bind ?_ (fun _ => ?_)
set_option maxHeartbeats 8000000 in
set_option maxRecDepth 100000 in
theorem q11z.calls (k : Nat) (A0 : Option Addr) (c0 : Nat) (l0 : List (S33)) (r : List (S33)) (w : World) (hr0 : Kd.C k33 w A0 l0.length l0) (hc0 : l0.length ≤ c0) (h : q11z.f k l0 = some r) :
  Calls Try.prog 21 #[.slice A0 l0.length c0] w fun e w' => ∃ v0_ : Value, e = .returned (v0_) ∧ Kd.R k33 33 w' w.heap.size (fun _ => True) v0_ r ∧ Below w.heap.size w w' := by
 have hu33 := Try.underlying33
 have HR0 := Aside0.mk hr0
 have HC0 := Aside0.mk hc0
 clear hr0 hc0
 have HB := Aside0.mk (Below.refl w.heap.size w)
 have H : ((q1z.f k l0).bind fun t151 => (q11z.l0 k ([] : List (S33)) 0 t151 (t151.length : Int) 0)) = some r := h
 clear h
 replace H := Option.bind_eq_some_iff.mp H
 obtain ⟨t151, A20, H⟩ := H
 replace H : (q11z.l0 k ([] : List (S33)) 0 t151 (t151.length : Int) 0) = some r := H
 have A2 := Aside0.mk A20
 clear A20
 have H' := Aside0.mk H
 clear H
 go_enter Try.func21, Try.ntmps21
 go_wp2_with (first | ((with_reducible refine gate_callee (f := 14) rfl ?_); refine goesL_ (some 8) rfl rfl Try.func14 (by kernel_rfl) rfl #[.slice A0 l0.length c0] rfl (by (try simp only [List.map_toArray, List.map_cons, List.map_nil]); first | done | rfl | (simp only [List.length_drop, List.length_take]; rfl)) ?_; (with_reducible refine (q1z.calls k _ _ l0 t151 _ ?side1 ?side2 A2.out).mono ?_); (case side1 => repeat (first | exact HR0.out | (with_reducible refine Kd.C_alloc ?_ _) | (with_reducible refine Kd.C_drewN ?_ _) | (with_reducible refine Kd.C_drew ?_))); (case side2 => exact HC0.out); rintro e w3 ⟨v152, rfl, ho0, hb⟩; refine ⟨_, rfl, ?_⟩; have n0_ := Aside0.mk (Kd.R_lower ho0 (below_size (by repeat (first | (with_reducible first | exact HB.out | apply below_alloc | apply pw_below_drewN | apply below_drew1) | exact HB.out)))); have n1_ := Aside0.mk (below_step (by repeat (first | (with_reducible first | exact HB.out | apply below_alloc | apply pw_below_drewN | apply below_drew1) | exact HB.out)) hb); clear HB; have HO153 := n0_; have HB := n1_; clear n0_ n1_; (try clear hb); (try clear hb2); (try clear hk); (try clear hi); (try clear ho0); obtain ⟨Ao4, co4, eo4⟩ := Kd.R_slice HO153.out; subst eo4))
 go_loopg [3, 4, 10] k (fun kq v3 v4 v10 w' => ∃ (x3_1 : List (S33)) (x4_1 : Int) (x10_1 : Int), v4 = .int .u32 x4_1 ∧ v10 = .int .i64 x10_1 ∧ Aside0 (q11z.l0 kq x3_1 x4_1 t151 (t151.length : Int) x10_1 = some r) ∧ Aside0 (kq ≤ k) ∧ Aside0 (Kd.R k33 33 w' w.heap.size (fun k_ => some k_ ≠ ((.slice Ao4 t151.length co4) : Value).ownBlock) v3 x3_1) ∧ Aside0 (Kd.R k33 33 w' w.heap.size (fun k_ => some k_ ≠ (v3 : Value).ownBlock) (.slice Ao4 t151.length co4) t151) ∧ Aside0 (Below w.heap.size w w'))
 case atStart => exact ⟨(([] : List (S33))), (0), (0), (by first | rfl | (simp; done) | (simp [*]; done)), (by first | rfl | (simp; done) | (simp [*]; done)), H', ⟨Nat.le_refl _⟩, ⟨by first | exact Kd.R_nil _ _ _ _ _ | exact Kd.N_nil _ _ _ _ _ | exact Kd.V_nil _ _ _ _ _ | exact Kd.Q_nil _ _ _ _ _ | exact Kd.S_nil _ _ _ _ _⟩, ⟨by (with_reducible repeat (first | apply Kd.R_alloc | apply Kd.R_drewN | apply Kd.R_drew)); exact Kd.R_mono HO153.out (fun _ hk => (by simp [Value.ownBlock]))⟩, ⟨by repeat (first | (with_reducible first | exact HB.out | apply below_alloc | apply pw_below_drewN | apply below_drew1) | exact HB.out)⟩⟩
 case round =>
  clear H'
  try clear c1
  try clear c2
  try clear p2
  obtain ⟨x3_1, x4_1, x10_1, rfl, rfl, HA, HK1, HO_3, HO_8, HB⟩ := hrel
  cases gk with
  | zero => exact absurd HA.out (by simp [q11z.l0])
  | succ k1 =>
   have H := HA.out
   clear HA
   simp only [q11z.l0] at H
   by_cases c5 : x10_1 < (t151.length : Int)
   ·
    rw [if_pos c5] at H
    have c5b0 : decide (x10_1 < (t151.length : Int)) = true := decide_eq_true c5
    clear c5
    by_cases c6 : 0 ≤ x10_1
    ·
     rw [if_pos c6] at H
     have c6b0 : decide (0 ≤ x10_1) = true := decide_eq_true c6
     clear c6
     by_cases c7 : x10_1 < (t151.length : Int)
     ·
      rw [if_pos c7] at H
      have c7b0 : decide (x10_1 < (t151.length : Int)) = true := decide_eq_true c7
      clear c7
      by_cases c8 : ((rd_T33 t151 x10_1).f0) > x4_1
      ·
       rw [if_pos c8] at H
       have c8b0 : decide (x4_1 < ((rd_T33 t151 x10_1).f0)) = true := decide_eq_true c8
       clear c8
       by_cases c9 : x3_1.length < 17592186044416
       ·
        rw [if_pos c9] at H
        have LMc9 := Aside0.mk c9
        clear c9
        obtain ⟨y159, hy159⟩ : ∃ y_ : List (S33), y_ = (x3_1 ++ [(⟨x4_1, (((rd_T33 t151 x10_1).f0) - 1) % 4294967296⟩ : S33)]) := ⟨_, rfl⟩
        replace H : (if ((rd_T33 t151 x10_1).f1) = 4294967295 then (some y159) else (q11z.l0 k1 y159 ((((rd_T33 t151 x10_1).f1) + 1) % 4294967296) t151 (t151.length : Int) (wrap64 (x10_1 + 1)))) = some r := by first | (rw [hy159]; with_reducible exact H) | (have H2_ := (Option.bind_some _ _).symm.trans H; rw [hy159]; with_reducible exact H2_) | (have H2_ := (Option.bind_some _ _).symm.trans H; with_reducible exact H2_) | with_reducible exact H | (rw [hy159]; exact H) | exact H
        have Ny159 := Aside0.mk hy159
        clear hy159
        by_cases c10 : ((rd_T33 t151 x10_1).f1) = 4294967295
        ·
         rw [if_pos c10] at H
         have c10b0 : (((rd_T33 t151 x10_1).f1) == 4294967295) = true := beq_iff_eq.mpr c10
         have c10b1 : (((rd_T33 t151 x10_1).f1) != 4294967295) = false := bne_eq_false_iff_eq.mpr c10
         clear c10
         obtain rfl := Option.some.inj H
         have p157 : 0 ≤ (x10_1 : Int) := of_decide_eq_true (by first | (with_reducible assumption) | assumption)
         have q157 : x10_1 < (t151.length : Int) := of_decide_eq_true (by first | (with_reducible assumption) | assumption)
         obtain ⟨ad157, e157, hx157_0, hx157_1⟩ := at_T33 (Kd.R_reads' HO_8.out).2.2 x10_1 p157 q157
         cases e157
         replace p157 := eq_true p157
         replace q157 := eq_true q157
         go_wp2_with (first | ((with_reducible refine gate_dst (N := 6) rfl ?_); refine box_event ?hg (N := 6) ?hd (cs := #[.int .u32 0, .int .u32 0]) (t := 33) ?hr ?_; (case hd => rfl); (case hg => rfl); (case hr => first | (go_simp; done) | (go_simp; rfl)); intro gb158 hg w11 hbox hb; have n0_ := Aside0.mk (Kd.R_below (Kd.R_elderB (by (with_reducible repeat (first | apply Kd.R_alloc | apply Kd.R_drewN | apply Kd.R_drew)); exact HO_3.out) gb158 (Nat.le_of_eq hg.symm)) hb); have n1_ := Aside0.mk (Kd.R_below (Kd.R_elderB (by (with_reducible repeat (first | apply Kd.R_alloc | apply Kd.R_drewN | apply Kd.R_drew)); exact HO_8.out) gb158 (Nat.le_of_eq hg.symm)) hb); have n2_ := Aside0.mk (below_step (by repeat (first | (with_reducible first | exact HB.out | apply below_alloc | apply pw_below_drewN | apply below_drew1) | exact HB.out)) hb); have n3_ := Aside0.mk (hbox); have n4_ := Aside0.mk ((by rw [hg]; exact (below_size (by repeat (first | (with_reducible first | exact HB.out | apply below_alloc | apply pw_below_drewN | apply below_drew1) | exact HB.out))) : w.heap.size ≤ gb158)); have n5_ := Aside0.mk ((by rw [hg]; exact (below_size (by repeat (first | (with_reducible first | exact HB.out | apply below_alloc | apply pw_below_drewN | apply below_drew1) | exact HB.out))) : w.heap.size ≤ gb158)); clear HO_3; clear HO_8; clear HB; have HO_3 := n0_; have HO_8 := n1_; have HB := n2_; have BK158 := n3_; have GW158 := n4_; have GE158 := n5_; clear n0_ n1_ n2_ n3_ n4_ n5_; clear hb hbox hg; have hcz12_0 : w11.cell? ⟨gb158, 0, none⟩ = some (.int .u32 0) := (blk_cell BK158.out 0).trans rfl; have hcz12_1 : w11.cell? ⟨gb158, 1, none⟩ = some (.int .u32 0) := (blk_cell BK158.out 1).trans rfl; have hfz12_0 := blk_frozen BK158.out 0; have hfz12_1 := blk_frozen BK158.out 1) | ((with_reducible refine gate_builtin (b := .append) (xs := #[.tmp 18, .tmp 24]) rfl ?_); at_builtin; refine Kd.R_append k33 (w0 := w) w.heap.size rfl (.tmp 18) (.tmp 24) 24 33 (.agg #[(.int .u32 0), (.int .u32 0)]) 8 rfl Try.underlying24 info33 rfl (by decide) (by omega) u3 x3_1 (⟨x4_1, (((rd_T33 t151 x10_1).f0) - 1) % 4294967296⟩ : S33) [.int .u32 x4_1, .int .u32 ((((rd_T33 t151 x10_1).f0) - 1) % 4294967296)] (fun k_ => some k_ ≠ (.slice (some ad157) t151.length co4 : Value).ownBlock ∧ k_ ≠ gb158) (fun _ => False) rfl (by first | (go_simp; done) | (go_simp; rfl)) ?aP (fun _ hk => hk.elim) ?aF ?aO ?aB ?aS ?aL ?_; (case aP => exact k33_mkM _ _ _ (⟨x4_1, (((rd_T33 t151 x10_1).f0) - 1) % 4294967296⟩ : S33)); (case aB => exact (by repeat (first | (with_reducible first | exact HB.out | apply below_alloc | apply pw_below_drewN | apply below_drew1 | refine below_set ?_ GE158.out) | exact HB.out))); (case aF => exact (fun k_ hk => ⟨Kd.fresh' (Kd.R_lt (by (with_reducible repeat (first | apply Kd.R_alloc | apply Kd.R_drewN | apply Kd.R_drew)); exact (Kd.R_mono (Kd.R_far (p := ⟨gb158, 1, none⟩) (Kd.R_far (p := ⟨gb158, 0, none⟩) (Kd.R_mono HO_8.out (fun k_ hk => (⟨hk, hk.2⟩ : _ ∧ k_ ≠ gb158))) (fun _ hk => hk.2) (.int .u32 ((rd_T33 t151 x10_1).f0))) (fun _ hk => hk.2) (.int .u32 ((rd_T33 t151 x10_1).f1))) (fun _ h_ => h_.1)))) k_ hk, Kd.freshB (g := gb158) (o := .cells #[.int .u32 ((rd_T33 t151 x10_1).f0), .int .u32 ((rd_T33 t151 x10_1).f1)] 33 (0, 0)) (by (with_reducible repeat (first | refine blk_drewN ?_ _ | refine blk_drew ?_ | refine blk_alloc ?_ _)); refine blk_put (cs := #[.int .u32 ((rd_T33 t151 x10_1).f0), .int .u32 0]) ?_ 1 _ rfl; (with_reducible repeat (first | refine blk_drewN ?_ _ | refine blk_drew ?_ | refine blk_alloc ?_ _)); refine blk_put (cs := #[.int .u32 0, .int .u32 0]) ?_ 0 _ rfl; (with_reducible repeat (first | refine blk_drewN ?_ _ | refine blk_drew ?_ | refine blk_alloc ?_ _)); exact BK158.out) k_ hk⟩)); (case aO => exact (by (with_reducible repeat (first | apply Kd.R_alloc | apply Kd.R_drewN | apply Kd.R_drew)); exact Kd.R_mono (Kd.R_far (p := ⟨gb158, 1, none⟩) (Kd.R_far (p := ⟨gb158, 0, none⟩) (Kd.R_mono HO_3.out (fun k_ hk => (⟨hk, hk.2⟩ : _ ∧ k_ ≠ gb158))) (fun _ hk => hk.2) (.int .u32 ((rd_T33 t151 x10_1).f0))) (fun _ hk => hk.2) (.int .u32 ((rd_T33 t151 x10_1).f1))) (fun _ hk => ⟨hk.1.1, hk.1.2⟩))); (case aS => exact (below_size (by repeat (first | (with_reducible first | exact HB.out | apply below_alloc | apply pw_below_drewN | apply below_drew1 | refine below_set ?_ GE158.out) | exact HB.out)))); (case aL => have := LMc9.out; omega); intro v160 w13 ho hb hg hat; rw [← Ny159.out] at ho; have n0_ := Aside0.mk (Kd.R_after (ok := (fun k_ => k_ ≠ gb158)) (by (with_reducible repeat (first | apply Kd.R_alloc | apply Kd.R_drewN | apply Kd.R_drew)); exact Kd.R_mono (Kd.R_far (p := ⟨gb158, 1, none⟩) (Kd.R_far (p := ⟨gb158, 0, none⟩) (Kd.R_mono HO_8.out (fun k_ hk => (⟨hk, hk.2⟩ : _ ∧ k_ ≠ gb158))) (fun _ hk => hk.2) (.int .u32 ((rd_T33 t151 x10_1).f0))) (fun _ hk => hk.2) (.int .u32 ((rd_T33 t151 x10_1).f1))) (fun _ hk => ⟨hk.1.2, hk.1.1⟩)) hg hat); have n1_ := Aside0.mk (blk_grown (g := gb158) (o := .cells #[.int .u32 ((rd_T33 t151 x10_1).f0), .int .u32 ((rd_T33 t151 x10_1).f1)] 33 (0, 0)) (by (with_reducible repeat (first | refine blk_drewN ?_ _ | refine blk_drew ?_ | refine blk_alloc ?_ _)); refine blk_put (cs := #[.int .u32 ((rd_T33 t151 x10_1).f0), .int .u32 0]) ?_ 1 _ rfl; (with_reducible repeat (first | refine blk_drewN ?_ _ | refine blk_drew ?_ | refine blk_alloc ?_ _)); refine blk_put (cs := #[.int .u32 0, .int .u32 0]) ?_ 0 _ rfl; (with_reducible repeat (first | refine blk_drewN ?_ _ | refine blk_drew ?_ | refine blk_alloc ?_ _)); exact BK158.out) hg (Kd.R_away HO_3.out (fun _ hk => hk.2))); have n2_ := Aside0.mk (hb); have n3_ := Aside0.mk (ho); clear HO_8; clear BK158; clear HB; clear HO_3; have HO_8 := n0_; have BK158 := n1_; have HB := n2_; have HO161 := n3_; clear n0_ n1_ n2_ n3_; clear ho hb hg hat; have hcz14_0 : w13.cell? ⟨gb158, 0, none⟩ = some (.int .u32 ((rd_T33 t151 x10_1).f0)) := (blk_cell BK158.out 0).trans rfl; have hcz14_1 : w13.cell? ⟨gb158, 1, none⟩ = some (.int .u32 ((rd_T33 t151 x10_1).f1)) := (blk_cell BK158.out 1).trans rfl; have hfz14_0 := blk_frozen BK158.out 0; have hfz14_1 := blk_frozen BK158.out 1))
         go_ret
         exact ⟨_, by first | rfl | (simp [errW_none, errW_some] <;> rfl) | (simp [*, errW_none, errW_some] <;> rfl), by (with_reducible repeat (first | apply Kd.R_alloc | apply Kd.R_drewN | apply Kd.R_drew)); exact Kd.R_mono HO161.out (fun _ hk => trivial), by repeat (first | (with_reducible first | exact HB.out | apply below_alloc | apply pw_below_drewN | apply below_drew1 | refine below_set ?_ GE158.out) | exact HB.out)⟩
        ·
         rw [if_neg c10] at H
         have c10b0 : (((rd_T33 t151 x10_1).f1) == 4294967295) = false := beq_eq_false_iff_ne.mpr c10
         have c10b1 : (((rd_T33 t151 x10_1).f1) != 4294967295) = true := bne_iff_ne.mpr c10
         have H' := Aside0.mk H
         clear H
         have p157 : 0 ≤ (x10_1 : Int) := of_decide_eq_true (by first | (with_reducible assumption) | assumption)
         have q157 : x10_1 < (t151.length : Int) := of_decide_eq_true (by first | (with_reducible assumption) | assumption)
         obtain ⟨ad157, e157, hx157_0, hx157_1⟩ := at_T33 (Kd.R_reads' HO_8.out).2.2 x10_1 p157 q157
         cases e157
         replace p157 := eq_true p157
         replace q157 := eq_true q157
         go_wp2_with (first | ((with_reducible refine gate_dst (N := 6) rfl ?_); refine box_event ?hg (N := 6) ?hd (cs := #[.int .u32 0, .int .u32 0]) (t := 33) ?hr ?_; (case hd => rfl); (case hg => rfl); (case hr => first | (go_simp; done) | (go_simp; rfl)); intro gb158 hg w15 hbox hb; have n0_ := Aside0.mk (Kd.R_below (Kd.R_elderB (by (with_reducible repeat (first | apply Kd.R_alloc | apply Kd.R_drewN | apply Kd.R_drew)); exact HO_3.out) gb158 (Nat.le_of_eq hg.symm)) hb); have n1_ := Aside0.mk (Kd.R_below (Kd.R_elderB (by (with_reducible repeat (first | apply Kd.R_alloc | apply Kd.R_drewN | apply Kd.R_drew)); exact HO_8.out) gb158 (Nat.le_of_eq hg.symm)) hb); have n2_ := Aside0.mk (below_step (by repeat (first | (with_reducible first | exact HB.out | apply below_alloc | apply pw_below_drewN | apply below_drew1) | exact HB.out)) hb); have n3_ := Aside0.mk (hbox); have n4_ := Aside0.mk ((by rw [hg]; exact (below_size (by repeat (first | (with_reducible first | exact HB.out | apply below_alloc | apply pw_below_drewN | apply below_drew1) | exact HB.out))) : w.heap.size ≤ gb158)); have n5_ := Aside0.mk ((by rw [hg]; exact (below_size (by repeat (first | (with_reducible first | exact HB.out | apply below_alloc | apply pw_below_drewN | apply below_drew1) | exact HB.out))) : w.heap.size ≤ gb158)); clear HO_3; clear HO_8; clear HB; have HO_3 := n0_; have HO_8 := n1_; have HB := n2_; have BK158 := n3_; have GW158 := n4_; have GE158 := n5_; clear n0_ n1_ n2_ n3_ n4_ n5_; clear hb hbox hg; have hcz16_0 : w15.cell? ⟨gb158, 0, none⟩ = some (.int .u32 0) := (blk_cell BK158.out 0).trans rfl; have hcz16_1 : w15.cell? ⟨gb158, 1, none⟩ = some (.int .u32 0) := (blk_cell BK158.out 1).trans rfl; have hfz16_0 := blk_frozen BK158.out 0; have hfz16_1 := blk_frozen BK158.out 1) | ((with_reducible refine gate_builtin (b := .append) (xs := #[.tmp 18, .tmp 24]) rfl ?_); at_builtin; refine Kd.R_append k33 (w0 := w) w.heap.size rfl (.tmp 18) (.tmp 24) 24 33 (.agg #[(.int .u32 0), (.int .u32 0)]) 8 rfl Try.underlying24 info33 rfl (by decide) (by omega) u3 x3_1 (⟨x4_1, (((rd_T33 t151 x10_1).f0) - 1) % 4294967296⟩ : S33) [.int .u32 x4_1, .int .u32 ((((rd_T33 t151 x10_1).f0) - 1) % 4294967296)] (fun k_ => some k_ ≠ (.slice (some ad157) t151.length co4 : Value).ownBlock ∧ k_ ≠ gb158) (fun _ => False) rfl (by first | (go_simp; done) | (go_simp; rfl)) ?aP (fun _ hk => hk.elim) ?aF ?aO ?aB ?aS ?aL ?_; (case aP => exact k33_mkM _ _ _ (⟨x4_1, (((rd_T33 t151 x10_1).f0) - 1) % 4294967296⟩ : S33)); (case aB => exact (by repeat (first | (with_reducible first | exact HB.out | apply below_alloc | apply pw_below_drewN | apply below_drew1 | refine below_set ?_ GE158.out) | exact HB.out))); (case aF => exact (fun k_ hk => ⟨Kd.fresh' (Kd.R_lt (by (with_reducible repeat (first | apply Kd.R_alloc | apply Kd.R_drewN | apply Kd.R_drew)); exact (Kd.R_mono (Kd.R_far (p := ⟨gb158, 1, none⟩) (Kd.R_far (p := ⟨gb158, 0, none⟩) (Kd.R_mono HO_8.out (fun k_ hk => (⟨hk, hk.2⟩ : _ ∧ k_ ≠ gb158))) (fun _ hk => hk.2) (.int .u32 ((rd_T33 t151 x10_1).f0))) (fun _ hk => hk.2) (.int .u32 ((rd_T33 t151 x10_1).f1))) (fun _ h_ => h_.1)))) k_ hk, Kd.freshB (g := gb158) (o := .cells #[.int .u32 ((rd_T33 t151 x10_1).f0), .int .u32 ((rd_T33 t151 x10_1).f1)] 33 (0, 0)) (by (with_reducible repeat (first | refine blk_drewN ?_ _ | refine blk_drew ?_ | refine blk_alloc ?_ _)); refine blk_put (cs := #[.int .u32 ((rd_T33 t151 x10_1).f0), .int .u32 0]) ?_ 1 _ rfl; (with_reducible repeat (first | refine blk_drewN ?_ _ | refine blk_drew ?_ | refine blk_alloc ?_ _)); refine blk_put (cs := #[.int .u32 0, .int .u32 0]) ?_ 0 _ rfl; (with_reducible repeat (first | refine blk_drewN ?_ _ | refine blk_drew ?_ | refine blk_alloc ?_ _)); exact BK158.out) k_ hk⟩)); (case aO => exact (by (with_reducible repeat (first | apply Kd.R_alloc | apply Kd.R_drewN | apply Kd.R_drew)); exact Kd.R_mono (Kd.R_far (p := ⟨gb158, 1, none⟩) (Kd.R_far (p := ⟨gb158, 0, none⟩) (Kd.R_mono HO_3.out (fun k_ hk => (⟨hk, hk.2⟩ : _ ∧ k_ ≠ gb158))) (fun _ hk => hk.2) (.int .u32 ((rd_T33 t151 x10_1).f0))) (fun _ hk => hk.2) (.int .u32 ((rd_T33 t151 x10_1).f1))) (fun _ hk => ⟨hk.1.1, hk.1.2⟩))); (case aS => exact (below_size (by repeat (first | (with_reducible first | exact HB.out | apply below_alloc | apply pw_below_drewN | apply below_drew1 | refine below_set ?_ GE158.out) | exact HB.out)))); (case aL => have := LMc9.out; omega); intro v160 w17 ho hb hg hat; rw [← Ny159.out] at ho; have n0_ := Aside0.mk (Kd.R_after (ok := (fun k_ => k_ ≠ gb158)) (by (with_reducible repeat (first | apply Kd.R_alloc | apply Kd.R_drewN | apply Kd.R_drew)); exact Kd.R_mono (Kd.R_far (p := ⟨gb158, 1, none⟩) (Kd.R_far (p := ⟨gb158, 0, none⟩) (Kd.R_mono HO_8.out (fun k_ hk => (⟨hk, hk.2⟩ : _ ∧ k_ ≠ gb158))) (fun _ hk => hk.2) (.int .u32 ((rd_T33 t151 x10_1).f0))) (fun _ hk => hk.2) (.int .u32 ((rd_T33 t151 x10_1).f1))) (fun _ hk => ⟨hk.1.2, hk.1.1⟩)) hg hat); have n1_ := Aside0.mk (blk_grown (g := gb158) (o := .cells #[.int .u32 ((rd_T33 t151 x10_1).f0), .int .u32 ((rd_T33 t151 x10_1).f1)] 33 (0, 0)) (by (with_reducible repeat (first | refine blk_drewN ?_ _ | refine blk_drew ?_ | refine blk_alloc ?_ _)); refine blk_put (cs := #[.int .u32 ((rd_T33 t151 x10_1).f0), .int .u32 0]) ?_ 1 _ rfl; (with_reducible repeat (first | refine blk_drewN ?_ _ | refine blk_drew ?_ | refine blk_alloc ?_ _)); refine blk_put (cs := #[.int .u32 0, .int .u32 0]) ?_ 0 _ rfl; (with_reducible repeat (first | refine blk_drewN ?_ _ | refine blk_drew ?_ | refine blk_alloc ?_ _)); exact BK158.out) hg (Kd.R_away HO_3.out (fun _ hk => hk.2))); have n2_ := Aside0.mk (hb); have n3_ := Aside0.mk (ho); clear HO_8; clear BK158; clear HB; clear HO_3; have HO_8 := n0_; have BK158 := n1_; have HB := n2_; have HO161 := n3_; clear n0_ n1_ n2_ n3_; clear ho hb hg hat; have hcz18_0 : w17.cell? ⟨gb158, 0, none⟩ = some (.int .u32 ((rd_T33 t151 x10_1).f0)) := (blk_cell BK158.out 0).trans rfl; have hcz18_1 : w17.cell? ⟨gb158, 1, none⟩ = some (.int .u32 ((rd_T33 t151 x10_1).f1)) := (blk_cell BK158.out 1).trans rfl; have hfz18_0 := blk_frozen BK158.out 0; have hfz18_1 := blk_frozen BK158.out 1))
         go_roundg k1
         case measure => have := HK1.out; omega
         case rel => exact ⟨(y159), ((((rd_T33 t151 x10_1).f1) + 1) % 4294967296), (wrap64 (x10_1 + 1)), (by first | rfl | (simp; done) | (simp [*]; done)), (by first | rfl | (simp; done) | (simp [*]; done)), H', ⟨by have := HK1.out; omega⟩, ⟨by (with_reducible repeat (first | apply Kd.R_alloc | apply Kd.R_drewN | apply Kd.R_drew)); exact Kd.R_mono HO161.out (fun _ hk => hk.1)⟩, ⟨by (with_reducible repeat (first | apply Kd.R_alloc | apply Kd.R_drewN | apply Kd.R_drew)); exact Kd.R_mono HO_8.out (fun _ hk => hk.2)⟩, ⟨by repeat (first | (with_reducible first | exact HB.out | apply below_alloc | apply pw_below_drewN | apply below_drew1 | refine below_set ?_ GE158.out) | exact HB.out)⟩⟩
       ·
        rw [if_neg c9] at H
        exact absurd H (by simp)
      ·
       rw [if_neg c8] at H
       have c8b0 : decide (x4_1 < ((rd_T33 t151 x10_1).f0)) = false := decide_eq_false c8
       clear c8
       by_cases c19 : ((rd_T33 t151 x10_1).f1) = 4294967295
       ·
        rw [if_pos c19] at H
        have c19b0 : (((rd_T33 t151 x10_1).f1) == 4294967295) = true := beq_iff_eq.mpr c19
        have c19b1 : (((rd_T33 t151 x10_1).f1) != 4294967295) = false := bne_eq_false_iff_eq.mpr c19
        clear c19
        obtain rfl := Option.some.inj H
        have p157 : 0 ≤ (x10_1 : Int) := of_decide_eq_true (by first | (with_reducible assumption) | assumption)
        have q157 : x10_1 < (t151.length : Int) := of_decide_eq_true (by first | (with_reducible assumption) | assumption)
        obtain ⟨ad157, e157, hx157_0, hx157_1⟩ := at_T33 (Kd.R_reads' HO_8.out).2.2 x10_1 p157 q157
        cases e157
        replace p157 := eq_true p157
        replace q157 := eq_true q157
        go_wp2_with (first | ((with_reducible refine gate_dst (N := 6) rfl ?_); refine box_event ?hg (N := 6) ?hd (cs := #[.int .u32 0, .int .u32 0]) (t := 33) ?hr ?_; (case hd => rfl); (case hg => rfl); (case hr => first | (go_simp; done) | (go_simp; rfl)); intro gb158 hg w20 hbox hb; have n0_ := Aside0.mk (Kd.R_below (Kd.R_elderB (by (with_reducible repeat (first | apply Kd.R_alloc | apply Kd.R_drewN | apply Kd.R_drew)); exact HO_3.out) gb158 (Nat.le_of_eq hg.symm)) hb); have n1_ := Aside0.mk (Kd.R_below (Kd.R_elderB (by (with_reducible repeat (first | apply Kd.R_alloc | apply Kd.R_drewN | apply Kd.R_drew)); exact HO_8.out) gb158 (Nat.le_of_eq hg.symm)) hb); have n2_ := Aside0.mk (below_step (by repeat (first | (with_reducible first | exact HB.out | apply below_alloc | apply pw_below_drewN | apply below_drew1) | exact HB.out)) hb); have n3_ := Aside0.mk (hbox); have n4_ := Aside0.mk ((by rw [hg]; exact (below_size (by repeat (first | (with_reducible first | exact HB.out | apply below_alloc | apply pw_below_drewN | apply below_drew1) | exact HB.out))) : w.heap.size ≤ gb158)); have n5_ := Aside0.mk ((by rw [hg]; exact (below_size (by repeat (first | (with_reducible first | exact HB.out | apply below_alloc | apply pw_below_drewN | apply below_drew1) | exact HB.out))) : w.heap.size ≤ gb158)); clear HO_3; clear HO_8; clear HB; have HO_3 := n0_; have HO_8 := n1_; have HB := n2_; have BK158 := n3_; have GW158 := n4_; have GE158 := n5_; clear n0_ n1_ n2_ n3_ n4_ n5_; clear hb hbox hg; have hcz21_0 : w20.cell? ⟨gb158, 0, none⟩ = some (.int .u32 0) := (blk_cell BK158.out 0).trans rfl; have hcz21_1 : w20.cell? ⟨gb158, 1, none⟩ = some (.int .u32 0) := (blk_cell BK158.out 1).trans rfl; have hfz21_0 := blk_frozen BK158.out 0; have hfz21_1 := blk_frozen BK158.out 1))
        go_ret
        exact ⟨_, by first | rfl | (simp [errW_none, errW_some] <;> rfl) | (simp [*, errW_none, errW_some] <;> rfl), by (with_reducible repeat (first | apply Kd.R_alloc | apply Kd.R_drewN | apply Kd.R_drew)); exact Kd.R_mono (Kd.R_far (p := ⟨gb158, 1, none⟩) (Kd.R_far (p := ⟨gb158, 0, none⟩) (Kd.R_mono HO_3.out (fun k_ hk => (⟨hk, hk.2⟩ : _ ∧ k_ ≠ gb158))) (fun _ hk => hk.2) (.int .u32 ((rd_T33 t151 x10_1).f0))) (fun _ hk => hk.2) (.int .u32 ((rd_T33 t151 x10_1).f1))) (fun _ hk => trivial), by repeat (first | (with_reducible first | exact HB.out | apply below_alloc | apply pw_below_drewN | apply below_drew1 | refine below_set ?_ GE158.out) | exact HB.out)⟩
       ·
        rw [if_neg c19] at H
        have c19b0 : (((rd_T33 t151 x10_1).f1) == 4294967295) = false := beq_eq_false_iff_ne.mpr c19
        have c19b1 : (((rd_T33 t151 x10_1).f1) != 4294967295) = true := bne_iff_ne.mpr c19
        have H' := Aside0.mk H
        clear H
        have p157 : 0 ≤ (x10_1 : Int) := of_decide_eq_true (by first | (with_reducible assumption) | assumption)
        have q157 : x10_1 < (t151.length : Int) := of_decide_eq_true (by first | (with_reducible assumption) | assumption)
        obtain ⟨ad157, e157, hx157_0, hx157_1⟩ := at_T33 (Kd.R_reads' HO_8.out).2.2 x10_1 p157 q157
        cases e157
        replace p157 := eq_true p157
        replace q157 := eq_true q157
        go_wp2_with (first | ((with_reducible refine gate_dst (N := 6) rfl ?_); refine box_event ?hg (N := 6) ?hd (cs := #[.int .u32 0, .int .u32 0]) (t := 33) ?hr ?_; (case hd => rfl); (case hg => rfl); (case hr => first | (go_simp; done) | (go_simp; rfl)); intro gb158 hg w22 hbox hb; have n0_ := Aside0.mk (Kd.R_below (Kd.R_elderB (by (with_reducible repeat (first | apply Kd.R_alloc | apply Kd.R_drewN | apply Kd.R_drew)); exact HO_3.out) gb158 (Nat.le_of_eq hg.symm)) hb); have n1_ := Aside0.mk (Kd.R_below (Kd.R_elderB (by (with_reducible repeat (first | apply Kd.R_alloc | apply Kd.R_drewN | apply Kd.R_drew)); exact HO_8.out) gb158 (Nat.le_of_eq hg.symm)) hb); have n2_ := Aside0.mk (below_step (by repeat (first | (with_reducible first | exact HB.out | apply below_alloc | apply pw_below_drewN | apply below_drew1) | exact HB.out)) hb); have n3_ := Aside0.mk (hbox); have n4_ := Aside0.mk ((by rw [hg]; exact (below_size (by repeat (first | (with_reducible first | exact HB.out | apply below_alloc | apply pw_below_drewN | apply below_drew1) | exact HB.out))) : w.heap.size ≤ gb158)); have n5_ := Aside0.mk ((by rw [hg]; exact (below_size (by repeat (first | (with_reducible first | exact HB.out | apply below_alloc | apply pw_below_drewN | apply below_drew1) | exact HB.out))) : w.heap.size ≤ gb158)); clear HO_3; clear HO_8; clear HB; have HO_3 := n0_; have HO_8 := n1_; have HB := n2_; have BK158 := n3_; have GW158 := n4_; have GE158 := n5_; clear n0_ n1_ n2_ n3_ n4_ n5_; clear hb hbox hg; have hcz23_0 : w22.cell? ⟨gb158, 0, none⟩ = some (.int .u32 0) := (blk_cell BK158.out 0).trans rfl; have hcz23_1 : w22.cell? ⟨gb158, 1, none⟩ = some (.int .u32 0) := (blk_cell BK158.out 1).trans rfl; have hfz23_0 := blk_frozen BK158.out 0; have hfz23_1 := blk_frozen BK158.out 1))
        go_roundg k1
        case measure => have := HK1.out; omega
        case rel => exact ⟨(x3_1), ((((rd_T33 t151 x10_1).f1) + 1) % 4294967296), (wrap64 (x10_1 + 1)), (by first | rfl | (simp; done) | (simp [*]; done)), (by first | rfl | (simp; done) | (simp [*]; done)), H', ⟨by have := HK1.out; omega⟩, ⟨by (with_reducible repeat (first | apply Kd.R_alloc | apply Kd.R_drewN | apply Kd.R_drew)); exact Kd.R_mono (Kd.R_far (p := ⟨gb158, 1, none⟩) (Kd.R_far (p := ⟨gb158, 0, none⟩) (Kd.R_mono HO_3.out (fun k_ hk => (⟨hk, hk.2⟩ : _ ∧ k_ ≠ gb158))) (fun _ hk => hk.2) (.int .u32 ((rd_T33 t151 x10_1).f0))) (fun _ hk => hk.2) (.int .u32 ((rd_T33 t151 x10_1).f1))) (fun _ hk => hk.1.1)⟩, ⟨by (with_reducible repeat (first | apply Kd.R_alloc | apply Kd.R_drewN | apply Kd.R_drew)); exact Kd.R_mono (Kd.R_far (p := ⟨gb158, 1, none⟩) (Kd.R_far (p := ⟨gb158, 0, none⟩) (Kd.R_mono HO_8.out (fun k_ hk => (⟨hk, hk.2⟩ : _ ∧ k_ ≠ gb158))) (fun _ hk => hk.2) (.int .u32 ((rd_T33 t151 x10_1).f0))) (fun _ hk => hk.2) (.int .u32 ((rd_T33 t151 x10_1).f1))) (fun _ hk => hk.1.1)⟩, ⟨by repeat (first | (with_reducible first | exact HB.out | apply below_alloc | apply pw_below_drewN | apply below_drew1 | refine below_set ?_ GE158.out) | exact HB.out)⟩⟩
     ·
      rw [if_neg c7] at H
      exact absurd H (by simp)
    ·
     rw [if_neg c6] at H
     exact absurd H (by simp)
   ·
    rw [if_neg c5] at H
    have c5b0 : decide (x10_1 < (t151.length : Int)) = false := decide_eq_false c5
    clear c5
    by_cases c24 : x3_1.length < 17592186044416
    ·
     rw [if_pos c24] at H
     have LMc24 := Aside0.mk c24
     clear c24
     obtain ⟨y154, hy154⟩ : ∃ y_ : List (S33), y_ = (x3_1 ++ [(⟨x4_1, 4294967295⟩ : S33)]) := ⟨_, rfl⟩
     replace H : (some y154) = some r := by first | (rw [hy154]; with_reducible exact H) | (have H2_ := (Option.bind_some _ _).symm.trans H; rw [hy154]; with_reducible exact H2_) | (have H2_ := (Option.bind_some _ _).symm.trans H; with_reducible exact H2_) | with_reducible exact H | (rw [hy154]; exact H) | exact H
     have Ny154 := Aside0.mk hy154
     clear hy154
     obtain rfl := Option.some.inj H
     go_wp2_with (first | ((with_reducible refine gate_builtin (b := .append) (xs := #[.tmp 34, .tmp 37]) rfl ?_); at_builtin; refine Kd.R_append k33 (w0 := w) w.heap.size rfl (.tmp 34) (.tmp 37) 24 33 (.agg #[(.int .u32 0), (.int .u32 0)]) 8 rfl Try.underlying24 info33 rfl (by decide) (by omega) u3 x3_1 (⟨x4_1, 4294967295⟩ : S33) [.int .u32 x4_1, .int .u32 4294967295] (fun k_ => some k_ ≠ (.slice Ao4 t151.length co4 : Value).ownBlock) (fun _ => False) rfl rfl ?aP (fun _ hk => hk.elim) ?aF ?aO ?aB ?aS ?aL ?_; (case aP => exact k33_mkM _ _ _ (⟨x4_1, 4294967295⟩ : S33)); (case aB => exact (by repeat (first | (with_reducible first | exact HB.out | apply below_alloc | apply pw_below_drewN | apply below_drew1) | exact HB.out))); (case aF => exact (fun k_ hk => Kd.fresh' (Kd.R_lt (by (with_reducible repeat (first | apply Kd.R_alloc | apply Kd.R_drewN | apply Kd.R_drew)); exact HO_8.out)) k_ hk)); (case aO => exact (by (with_reducible repeat (first | apply Kd.R_alloc | apply Kd.R_drewN | apply Kd.R_drew)); exact HO_3.out)); (case aS => exact (below_size (by repeat (first | (with_reducible first | exact HB.out | apply below_alloc | apply pw_below_drewN | apply below_drew1) | exact HB.out)))); (case aL => have := LMc24.out; omega); intro v155 w25 ho hb hg hat; rw [← Ny154.out] at ho; have n0_ := Aside0.mk (Kd.R_after (ok := (fun _ => True)) (by (with_reducible repeat (first | apply Kd.R_alloc | apply Kd.R_drewN | apply Kd.R_drew)); exact Kd.R_mono HO_8.out (fun _ hk => ⟨trivial, hk⟩)) hg hat); have n1_ := Aside0.mk (hb); have n2_ := Aside0.mk (ho); clear HO_8; clear HB; clear HO_3; have HO_8 := n0_; have HB := n1_; have HO156 := n2_; clear n0_ n1_ n2_; clear ho hb hg hat))
     go_ret
     exact ⟨_, by first | rfl | (simp [errW_none, errW_some] <;> rfl) | (simp [*, errW_none, errW_some] <;> rfl), by (with_reducible repeat (first | apply Kd.R_alloc | apply Kd.R_drewN | apply Kd.R_drew)); exact Kd.R_mono HO156.out (fun _ hk => trivial), by repeat (first | (with_reducible first | exact HB.out | apply below_alloc | apply pw_below_drewN | apply below_drew1) | exact HB.out)⟩
    ·
     rw [if_neg c24] at H
     exact absurd H (by simp)

end Go.Proofs.Ytconaifcjnpabaa.P

namespace Go.Proofs.Ytconaifcjnpabaa.P
open Go.RowKit Go.Proofs.YtconaifcjnpabaaW.PrintWords Go.Proofs.YtconaifcjnpabaaW.PrintLast Go.Proofs.YtconaifcjnpabaaW.PrintMore Go.Sort Go.Shelf Go.Lib
set_option linter.unusedVariables false
def lay_Compact_ren : Go.Shelf.Ren := ⟨fun | 43 => 23 | n => n, fun | 22 => 37 | 23 => 29 | 3 => 3 | 4 => 4 | 0 => 0 | n => n, fun n => n⟩
theorem lay_Compact : SlLaysE.n43 Try.prog lay_Compact_ren := {
  mixed := by kernel_rfl,
  f43 := ⟨Try.f23.name, by decide, Try.func23.trans (congrArg some (by kernel_rfl))⟩,
  t0 := Try.underlying0,
  a0 := Try.isAgg0,
  z0 := Try.sizeOf0,
  v0 := Try.zeroValue0,
  t3 := Try.underlying3,
  a3 := Try.isAgg3,
  z3 := Try.sizeOf3,
  v3 := Try.zeroValue3,
  t4 := Try.underlying4,
  a4 := Try.isAgg4,
  z4 := Try.sizeOf4,
  v4 := Try.zeroValue4,
  t22 := Try.underlying37,
  a22 := Try.isAgg37,
  z22 := Try.sizeOf37,
  v22 := Try.zeroValue37,
  a23 := Try.isAgg29,
  z23 := Try.sizeOf29 }
section
variable {α : Type} [Inhabited α]
theorem flat_one (enc : α → Value) (d : Array α) (i : Nat) (h : i < d.size) : (flatK (fun x => [enc x]) 1 d)[i]! = enc d[i]! := by
  rw [get_flatK _ _ _ _ (by omega), Nat.div_one, Nat.mod_one]
  rfl
theorem holds_one (enc : α → Value) (w : World) (blk off : Nat) (d : Array α) (h : HoldsK (fun x => [enc x]) 1 w blk off d) : Holds enc w blk off d := fun j hj => by
  have := h j (by rw [size_flatK]; omega)
  rw [flat_one enc d j hj] at this
  exact this
theorem putRow_one (enc : α → Value) (w : World) (blk off : Nat) (d : Array α) : putRow enc w blk off d = putRowK (fun x => [enc x]) 1 w blk off d := by
  unfold putRowK putRow
  refine mapBlock_congr w blk _ _ (fun c e fr _ => ?_)
  unfold putCells
  apply Array.ext_getElem?
  intro i
  rw [Array.getElem?_mapIdx, Array.getElem?_mapIdx, size_flatK, Nat.mul_one]
  cases c[i]? with
  | none => rfl
  | some x =>
    simp only [Option.map_some]
    by_cases hi : off ≤ i ∧ i < off + d.size
    · rw [if_pos hi, if_pos hi, flat_one enc d (i - off) (by omega)]
      rfl
    · rw [if_neg hi, if_neg hi]
end
def Compact_u32.f (l0 : List Int) : Option (List Int) := if l0.length ≤ 9223372036854775807 then some (Go.Lib.compactUpTo l0.toArray l0.length) else none
theorem compact_le (l : List Int) : (Go.Lib.compactUpTo l.toArray l.length).length ≤ l.length := by
  unfold Go.Lib.compactUpTo
  rw [List.length_map]
  exact Nat.le_trans (List.length_filter_le _ _) (by simp)
theorem Compact_u32.calls (P0_ : Nat → Prop) (u9000_ : Value) (l0 : List Int) (r : List Int) (w0 w : World) (hB : Below w0.heap.size w0 w) (ho0 : Kd.R (Kd.int .u32) 29 w w0.heap.size P0_ u9000_ l0) (h : Compact_u32.f l0 = some r) :
    Calls Try.prog 23 #[u9000_] w fun e w' => ∃ v0_ : Value, e = .returned (v0_) ∧ Kd.R (Kd.int .u32) 29 w' w0.heap.size (fun k_ => (P0_ k_ ∨ w.heap.size ≤ k_)) v0_ r ∧ Below w0.heap.size w0 w' ∧ Kept w w' (fun k_ => P0_ k_) := by
  unfold Compact_u32.f at h
  by_cases hsz : l0.length ≤ 9223372036854775807
  · rw [if_pos hsz] at h
    have hr := Option.some.inj h
    clear h
    rcases bridge_down (d := Kd.int .u32) (enc := fun x : Int => [.int .u32 x]) (fun h => h) (fun _ => rfl) (by decide) ho0 with ⟨rfl, rfl⟩ | ⟨g, cap, cur, rfl, hbase, hb, hnc, hcm, hcs, hok, hH⟩
    · have hrn : r = [] := by
        have := compact_le []
        rw [hr] at this
        exact List.length_eq_zero_iff.1 (by simpa using this)
      subst hrn
      clear hr hsz
      have HO := Go.Lib.hid ho0
      clear ho0
      go_enter Try.func23, Try.ntmps23
      go_wp2
      go_ret
      exact ⟨_, rfl, Kd.R_nil _ _ _ _ _, hB, Kept.refl _ _⟩
    · have hcon := AnyE.slices_Compact lay_Compact (Value.int .u32) (fun _ => rfl) (EqlAt.intD _ _ .u32) (NeqAt.intD _ _ .u32) 0 Try.zeroValue29 g 0 cap l0.toArray w (holds_one _ _ _ _ _ hH) (by simpa using hsz) (by simpa using hnc)
      refine (show Calls Try.prog 23 _ _ _ from hcon).mono ?_
      rintro e w' ⟨rfl, q, rfl⟩
      have hcl := compact_le l0
      have hcu : Go.Lib.compactUpTo l0.toArray l0.toArray.size = r := by rw [← hr]; simp
      rw [hcu]
      rw [hr] at hcl
      have hyl : (r ++ List.replicate (l0.toArray.size - r.length) (0 : Int)).length = l0.length := by simp; omega
      have hup := bridge_up (d := Kd.int .u32) (enc := fun x : Int => [.int .u32 x]) (ys := r ++ List.replicate (l0.toArray.size - r.length) (0 : Int)) (fun _ _ _ _ => rfl) (fun _ => rfl) (by decide) hB hbase hb hyl hnc hcm hcs hok q #[]
      rw [grow_empty, show (Kd.int .u32).sz = 1 from rfl, ← putRow_one] at hup
      refine ⟨_, rfl, ?_, hup.2⟩
      have := Kd.R_take (m := r.length) hup.1 (by simp)
      rw [List.take_left] at this
      exact this
  · rw [if_neg hsz] at h
    exact absurd h (by simp)
end Go.Proofs.Ytconaifcjnpabaa.P

namespace Go.Proofs.Ytconaifcjnpabaa.P
open Go.RowKit Go.Proofs.YtconaifcjnpabaaW.PrintWords Go.Proofs.YtconaifcjnpabaaW.PrintLast Go.Proofs.YtconaifcjnpabaaW.PrintMore
attribute [local go_sem] max2_int min2_int max_two min_two max_three min_three max_four min_four
set_option linter.unusedVariables false
set_option linter.unusedSimpArgs false

/-! ### cmp_isNaN_uint32: function 37 -/
def q12z.f (a0 : Int) : Option (Bool) := some (a0 != a0)
set_option maxHeartbeats 8000000 in
set_option maxRecDepth 100000 in
theorem q12z.calls (a0 : Int) (r : Bool) (w : World) (h : q12z.f a0 = some r) :
  Calls Try.prog 37 #[.int .u32 a0] w fun e w' => e = .returned (.bool r) ∧ Drawn0 w w' := by
 have H : (some (a0 != a0)) = some r := h
 clear h
 obtain rfl := Option.some.inj H
 go_enter Try.func37, Try.ntmps37
 go_wp2
 go_ret
 exact ⟨by first | rfl | (simp; done) | (simp [*]; done), by repeat (first | exact Drawn0.refl _ | apply Drawn0.step)⟩

end Go.Proofs.Ytconaifcjnpabaa.P
