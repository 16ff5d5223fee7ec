/- Part of the proof of the law ActElse: the functions that it reaches, by contract. -/
import Derived.Lib.SlicesCompact
import Derived.Test.YtgelpccjdndfoaaCActElse0
import Derived.Test.YtgelpccjdndfoaaCActElse1
import Derived.Test.YtgelpccjdndfoaaCActElse2
namespace Go.Proofs.Ytgelpccjdndfoaa.P
open Go.RowKit Go.Proofs.YtgelpccjdndfoaaW.PrintWords Go.Proofs.YtgelpccjdndfoaaW.PrintLast Go.Proofs.YtgelpccjdndfoaaW.PrintMore
attribute [local go_sem] max2_int min2_int max_two min_two max_three min_three max_four min_four
set_option linter.unusedVariables false
set_option linter.unusedSimpArgs false

/-! ### dragomanref12_Right: function 15 -/
mutual
def q21z.j0 : Nat → Int → Bool → Int → Int → List Int → List (S53) → Option (Bool)
 | 0, _, _, _, _, _, _ => none
 | k + 1, x6, x7, x2000, x2001, x2002, x2003 => if x7 = true then (some true) else (if x6 = 3 then (some (decide (x2001 ≤ 2))) else (if x6 = 5 then (q21z.l0 k x2002 (x2002.length : Int) 0 x2000 x2001 x2002 x2003) else (if x6 = 6 then (q21z.j2 k x6 (x6 == 6) x2000 x2001 x2002 x2003) else (q21z.j2 k x6 (x6 == 7) x2000 x2001 x2002 x2003))))
def q21z.l0 : Nat → List Int → Int → Int → Int → Int → List Int → List (S53) → Option (Bool)
 | 0, _, _, _, _, _, _, _ => none
 | k + 1, x19, x20, x21, x2000, x2001, x2002, x2003 => if x21 < x20 then (if 0 ≤ x21 then (if x21 < (x19.length : Int) then (if (rd x19 x21) = 0 then (some false) else (q21z.l0 k x19 x20 (wrap64 (x21 + 1)) x2000 x2001 x2002 x2003)) else (none)) else (none)) else (some (decide ((x2002.length : Int) ≤ 64)))
def q21z.j2 : Nat → Int → Bool → Int → Int → List Int → List (S53) → Option (Bool)
 | 0, _, _, _, _, _, _ => none
 | k + 1, x6, x32, x2000, x2001, x2002, x2003 => if x32 = true then (some (decide ((x2002.length : Int) ≤ 64))) else (if x6 = 8 then ((q20z.f k x2003).bind fun t3 => (some t3)) else (some false))
end
def q21z.f (k : Nat) (a0_0 : Int) (a0_1 : Int) (l0_2 : List Int) (l0_3 : List (S53)) : Option (Bool) := if a0_0 = 1 then (q21z.j0 k a0_0 (a0_0 == 1) a0_0 a0_1 l0_2 l0_3) else (if a0_0 = 2 then (q21z.j0 k a0_0 (a0_0 == 2) a0_0 a0_1 l0_2 l0_3) else (q21z.j0 k a0_0 (a0_0 == 4) a0_0 a0_1 l0_2 l0_3))
theorem q21z.mono_l : ∀ k, (∀ y0 y1 y2 y3 y4 y5, LeO (q21z.j0 k y0 y1 y2 y3 y4 y5) (q21z.j0 (k + 1) y0 y1 y2 y3 y4 y5)) ∧ (∀ y0 y1 y2 y3 y4 y5 y6, LeO (q21z.l0 k y0 y1 y2 y3 y4 y5 y6) (q21z.l0 (k + 1) y0 y1 y2 y3 y4 y5 y6)) ∧ (∀ y0 y1 y2 y3 y4 y5, LeO (q21z.j2 k y0 y1 y2 y3 y4 y5) (q21z.j2 (k + 1) y0 y1 y2 y3 y4 y5))
 | 0 => ⟨fun _ _ _ _ _ _ r h => by simp [q21z.j0] at h, fun _ _ _ _ _ _ _ r h => by simp [q21z.l0] at h, fun _ _ _ _ _ _ r h => by simp [q21z.j2] at h⟩
 | k + 1 => by
  obtain ⟨ih0, ih1, ih2⟩ := q21z.mono_l k
  refine ⟨?_, ?_, ?_⟩
  ·
   intro y0 y1 y2 y3 y4 y5
   unfold q21z.j0
   repeat' first
   | (with_reducible exact ih0 _ _ _ _ _ _)
   | (with_reducible exact ih1 _ _ _ _ _ _ _)
   | (with_reducible exact ih2 _ _ _ _ _ _)
   | (with_reducible exact q20z.mono _ _)
   | (with_reducible exact LeO.refl _)
   | (with_reducible exact LeO.none _)
   | (with_reducible refine LeO.ite ?_ ?_)
   | (with_reducible refine LeO.bind ?_ (fun _ => ?_))
   | exact ih0 _ _ _ _ _ _
   | exact ih1 _ _ _ _ _ _ _
   | exact ih2 _ _ _ _ _ _
   | exact q20z.mono _ _
   | exact LeO.none _
   | refine LeO.ite ?_ ?_
   | refine LeO.bind ?_ (fun _ => ?_)
  ·
   intro y0 y1 y2 y3 y4 y5 y6
   unfold q21z.l0
   repeat' first
   | (with_reducible exact ih0 _ _ _ _ _ _)
   | (with_reducible exact ih1 _ _ _ _ _ _ _)
   | (with_reducible exact ih2 _ _ _ _ _ _)
   | (with_reducible exact q20z.mono _ _)
   | (with_reducible exact LeO.refl _)
   | (with_reducible exact LeO.none _)
   | (with_reducible refine LeO.ite ?_ ?_)
   | (with_reducible refine LeO.bind ?_ (fun _ => ?_))
   | exact ih0 _ _ _ _ _ _
   | exact ih1 _ _ _ _ _ _ _
   | exact ih2 _ _ _ _ _ _
   | exact q20z.mono _ _
   | exact LeO.none _
   | refine LeO.ite ?_ ?_
   | refine LeO.bind ?_ (fun _ => ?_)
  ·
   intro y0 y1 y2 y3 y4 y5
   unfold q21z.j2
   repeat' first
   | (with_reducible exact ih0 _ _ _ _ _ _)
   | (with_reducible exact ih1 _ _ _ _ _ _ _)
   | (with_reducible exact ih2 _ _ _ _ _ _)
   | (with_reducible exact q20z.mono _ _)
   | (with_reducible exact LeO.refl _)
   | (with_reducible exact LeO.none _)
   | (with_reducible refine LeO.ite ?_ ?_)
   | (with_reducible refine LeO.bind ?_ (fun _ => ?_))
   | exact ih0 _ _ _ _ _ _
   | exact ih1 _ _ _ _ _ _ _
   | exact ih2 _ _ _ _ _ _
   | exact q20z.mono _ _
   | exact LeO.none _
   | refine LeO.ite ?_ ?_
   | refine LeO.bind ?_ (fun _ => ?_)
theorem q21z.mono : ∀ a0 a1 a2 a3 k, LeO (q21z.f k a0 a1 a2 a3) (q21z.f (k + 1) a0 a1 a2 a3) := by
 intro a0 a1 a2 a3 k
 obtain ⟨ih0, ih1, ih2⟩ := q21z.mono_l k
 unfold q21z.f
 repeat' first
   | (with_reducible exact ih0 _ _ _ _ _ _)
   | (with_reducible exact ih1 _ _ _ _ _ _ _)
   | (with_reducible exact ih2 _ _ _ _ _ _)
   | (with_reducible exact q20z.mono _ _)
   | (with_reducible exact LeO.refl _)
   | (with_reducible exact LeO.none _)
   | (with_reducible refine LeO.ite ?_ ?_)
   | (with_reducible refine LeO.bind ?_ (fun _ => ?_))
   | exact ih0 _ _ _ _ _ _
   | exact ih1 _ _ _ _ _ _ _
   | exact ih2 _ _ _ _ _ _
   | exact q20z.mono _ _
   | exact LeO.none _
   | refine LeO.ite ?_ ?_
   | refine LeO.bind ?_ (fun _ => ?_)
set_option maxHeartbeats 8000000 in
set_option maxRecDepth 100000 in
theorem q21z.calls (k : Nat) (a0_0 : Int) (a0_1 : Int) (A0_2 : Option Addr) (c0_2 : Nat) (l0_2 : List Int) (A0_3 : Option Addr) (c0_3 : Nat) (l0_3 : List (S53)) (r : Bool) (w : World) (hr0_2 : Kd.C (Kd.int .u32) w A0_2 l0_2.length l0_2) (hc0_2 : l0_2.length ≤ c0_2) (hr0_3 : Kd.C k53 w A0_3 l0_3.length l0_3) (hc0_3 : l0_3.length ≤ c0_3) (h : q21z.f k a0_0 a0_1 l0_2 l0_3 = some r) :
  Calls Try.prog 15 #[.agg #[.int .i64 a0_0, .int .u32 a0_1, .slice A0_2 l0_2.length c0_2, .slice A0_3 l0_3.length c0_3]] w fun e w' => e = .returned (.bool r) ∧ Below w.heap.size w w' := by
 have hu26 := Try.underlying26
 have HR0_2 := Aside0.mk hr0_2
 have HC0_2 := Aside0.mk hc0_2
 clear hr0_2 hc0_2
 have HR0_3 := Aside0.mk hr0_3
 have HC0_3 := Aside0.mk hc0_3
 clear hr0_3 hc0_3
 have HB := Aside0.mk (Below.refl w.heap.size w)
 have H : (if a0_0 = 1 then (q21z.j0 k a0_0 (a0_0 == 1) a0_0 a0_1 l0_2 l0_3) else (if a0_0 = 2 then (q21z.j0 k a0_0 (a0_0 == 2) a0_0 a0_1 l0_2 l0_3) else (q21z.j0 k a0_0 (a0_0 == 4) a0_0 a0_1 l0_2 l0_3))) = some r := h
 clear h
 have HC2 := Aside0.mk H
 clear H
 go_enter Try.func15, Try.ntmps15
 go_upto_if 7 with (first | ((with_reducible refine gate_dst (N := 1) rfl ?_); refine box_event ?hg (N := 1) ?hd (cs := #[.int .i64 a0_0, .int .u32 a0_1, .slice A0_2 l0_2.length c0_2, .slice A0_3 l0_3.length c0_3]) (t := 26) ?hr ?_; (case hd => rfl); (case hg => rfl); (case hr => first | (go_simp; done) | (go_simp; rfl)); intro gb1 hg w3 hbox hb; have BK1 := Aside0.mk (hbox); have GW1 := Aside0.mk ((by rw [hg]; exact (below_size (hbW HB)) : w.heap.size ≤ gb1)); have GE1 := Aside0.mk ((by rw [hg]; exact (below_size (hbW HB)) : w.heap.size ≤ gb1)); replace HB := hbS HB hb; clear hb hbox hg; obtain ⟨hcz4_0, hcz4_1, hcz4_2, hcz4_3, hfz4_0, hfz4_1, hfz4_2, hfz4_3⟩ := bc4 BK1))
 (try simp only [Act.put, List.setIfInBounds_toArray, List.set_cons_zero, List.set_cons_succ])
 go_cut [7] (fun v7 wc => ∃ (kq : Nat) (x7_1 : Bool), v7 = .bool x7_1 ∧ Aside0 (q21z.j0 kq a0_0 x7_1 a0_0 a0_1 l0_2 l0_3 = some r) ∧ Aside0 (kq ≤ k) ∧ Aside0 (wc.heap[gb1]? = some (.cells #[.int .i64 a0_0, .int .u32 a0_1, (.slice A0_2 l0_2.length c0_2), (.slice A0_3 l0_3.length c0_3)] 26 (0, 0))) ∧ Aside0 (Below w.heap.size w wc))
 case first =>
  have H := HC2.out
  clear HC2
  by_cases c5 : a0_0 = 1
  ·
   rw [if_pos c5] at H
   have c5b0 : (a0_0 == 1) = true := beq_iff_eq.mpr c5
   have c5b1 : (a0_0 != 1) = false := bne_eq_false_iff_eq.mpr c5
   clear c5
   (first | rw [c5b0] | (simp only [i64_w, i32_w, IntKind.wrap_u32]; rw [c5b0]) | skip)
   have H' := Aside0.mk H
   clear H
   go_wp2
   go_meet
   case rel => exact ⟨_, ((a0_0 == 1)), (by first | rfl | (simp; done) | (simp [*]; done)), H', ⟨by first | omega | exact Nat.le_refl _⟩, ⟨by (with_reducible repeat (first | refine blk_drewN ?_ _ | refine blk_drew ?_ | refine blk_alloc ?_ _)); exact BK1.out⟩, ⟨hbW HB⟩⟩
  ·
   rw [if_neg c5] at H
   have c5b0 : (a0_0 == 1) = false := beq_eq_false_iff_ne.mpr c5
   have c5b1 : (a0_0 != 1) = true := bne_iff_ne.mpr c5
   (first | rw [c5b0] | (simp only [i64_w, i32_w, IntKind.wrap_u32]; rw [c5b0]) | skip)
   by_cases c6 : a0_0 = 2
   ·
    rw [if_pos c6] at H
    have c6b0 : (a0_0 == 2) = true := beq_iff_eq.mpr c6
    have c6b1 : (a0_0 != 2) = false := bne_eq_false_iff_eq.mpr c6
    clear c6
    have H' := Aside0.mk H
    clear H
    go_wp2
    go_meet
    case rel => exact ⟨_, ((a0_0 == 2)), (by first | rfl | (simp; done) | (simp [*]; done)), H', ⟨by first | omega | exact Nat.le_refl _⟩, ⟨by (with_reducible repeat (first | refine blk_drewN ?_ _ | refine blk_drew ?_ | refine blk_alloc ?_ _)); exact BK1.out⟩, ⟨hbW HB⟩⟩
   ·
    rw [if_neg c6] at H
    have c6b0 : (a0_0 == 2) = false := beq_eq_false_iff_ne.mpr c6
    have c6b1 : (a0_0 != 2) = true := bne_iff_ne.mpr c6
    have H' := Aside0.mk H
    clear H
    go_wp2
    go_meet
    case rel => exact ⟨_, ((a0_0 == 4)), (by first | rfl | (simp; done) | (simp [*]; done)), H', ⟨by first | omega | exact Nat.le_refl _⟩, ⟨by (with_reducible repeat (first | refine blk_drewN ?_ _ | refine blk_drew ?_ | refine blk_alloc ?_ _)); exact BK1.out⟩, ⟨hbW HB⟩⟩
 case rest =>
  clear HC2
  try clear c1
  try clear p2
  try clear c5
  try clear c5b0
  try clear c5b1
  try clear c6
  try clear c6b0
  try clear c6b1
  try clear hcz4_0
  try clear hcz4_1
  try clear hcz4_2
  try clear hcz4_3
  try clear hfz4_0
  try clear hfz4_1
  try clear hfz4_2
  try clear hfz4_3
  obtain ⟨kq, x7_1, rfl, HA, HJ1, BK1, HB⟩ := hcut
  cases kq with
  | zero => exact absurd HA.out (by simp [q21z.j0])
  | succ kj1 =>
   have H := HA.out
   clear HA
   simp only [q21z.j0] at H
   by_cases c7 : x7_1 = true
   ·
    subst c7
    have H1 : (some true) = some r := by rw [if_pos rfl] at H; exact H
    clear H
    have H := H1
    clear H1
    obtain rfl := Option.some.inj H
    go_wp2
    go_ret
    exact ⟨by first | rfl | (simp [errW_none, errW_some] <;> rfl) | (simp [*, errW_none, errW_some] <;> rfl), hbW HB⟩
   ·
    replace c7 := Bool.eq_false_iff.mpr c7
    subst c7
    have H1 : (if a0_0 = 3 then (some (decide (a0_1 ≤ 2))) else (if a0_0 = 5 then (q21z.l0 kj1 l0_2 (l0_2.length : Int) 0 a0_0 a0_1 l0_2 l0_3) else (if a0_0 = 6 then (q21z.j2 kj1 a0_0 (a0_0 == 6) a0_0 a0_1 l0_2 l0_3) else (q21z.j2 kj1 a0_0 (a0_0 == 7) a0_0 a0_1 l0_2 l0_3)))) = some r := by rw [if_neg (show ¬ (false = true) by decide)] at H; exact H
    clear H
    have H := H1
    clear H1
    by_cases c8 : a0_0 = 3
    ·
     rw [if_pos c8] at H
     have c8b0 : (a0_0 == 3) = true := beq_iff_eq.mpr c8
     have c8b1 : (a0_0 != 3) = false := bne_eq_false_iff_eq.mpr c8
     clear c8
     obtain rfl := Option.some.inj H
     obtain ⟨hcz9_0, hcz9_1, hcz9_2, hcz9_3, hfz9_0, hfz9_1, hfz9_2, hfz9_3⟩ := bc4 BK1
     go_wp2
     go_ret
     exact ⟨by first | rfl | (simp [errW_none, errW_some] <;> rfl) | (simp [*, errW_none, errW_some] <;> rfl), hbW HB⟩
    ·
     rw [if_neg c8] at H
     have c8b0 : (a0_0 == 3) = false := beq_eq_false_iff_ne.mpr c8
     have c8b1 : (a0_0 != 3) = true := bne_iff_ne.mpr c8
     by_cases c10 : a0_0 = 5
     ·
      rw [if_pos c10] at H
      have c10b0 : (a0_0 == 5) = true := beq_iff_eq.mpr c10
      have c10b1 : (a0_0 != 5) = false := bne_eq_false_iff_eq.mpr c10
      clear c10
      have H' := Aside0.mk H
      clear H
      obtain ⟨hcz11_0, hcz11_1, hcz11_2, hcz11_3, hfz11_0, hfz11_1, hfz11_2, hfz11_3⟩ := bc4 BK1
      go_wp2
      go_loopg [21] kj1 (fun kq v21 w' => ∃ (x21_2 : Int), v21 = .int .i64 x21_2 ∧ Aside0 (q21z.l0 kq l0_2 (l0_2.length : Int) x21_2 a0_0 a0_1 l0_2 l0_3 = some r) ∧ Aside0 (kq ≤ kj1) ∧ Aside0 (w'.heap[gb1]? = some (.cells #[.int .i64 a0_0, .int .u32 a0_1, (.slice A0_2 l0_2.length c0_2), (.slice A0_3 l0_3.length c0_3)] 26 (0, 0))) ∧ Aside0 (Below w.heap.size w w'))
      case atStart => exact ⟨(0), (by first | rfl | (simp; done) | (simp [*]; done)), H', ⟨Nat.le_refl _⟩, ⟨by (with_reducible repeat (first | refine blk_drewN ?_ _ | refine blk_drew ?_ | refine blk_alloc ?_ _)); exact BK1.out⟩, ⟨hbW HB⟩⟩
      case round =>
       clear H'
       try clear c1
       try clear p2
       try clear c5
       try clear c5b0
       try clear c5b1
       try clear c6
       try clear c6b0
       try clear c6b1
       try clear c7
       try clear c8
       try clear c8b0
       try clear c8b1
       try clear c10
       try clear c10b0
       try clear c10b1
       try clear hcz4_0
       try clear hcz4_1
       try clear hcz4_2
       try clear hcz4_3
       try clear hfz4_0
       try clear hfz4_1
       try clear hfz4_2
       try clear hfz4_3
       try clear p2
       obtain ⟨x21_2, rfl, HA, HK2, BK1, HB⟩ := hrel
       cases gk with
       | zero => exact absurd HA.out (by simp [q21z.l0])
       | succ k2 =>
        have H := HA.out
        clear HA
        simp only [q21z.l0] at H
        by_cases c12 : x21_2 < (l0_2.length : Int)
        ·
         rw [if_pos c12] at H
         have c12b0 : decide (x21_2 < (l0_2.length : Int)) = true := decide_eq_true c12
         clear c12
         by_cases c13 : 0 ≤ x21_2
         ·
          rw [if_pos c13] at H
          have c13b0 : decide (0 ≤ x21_2) = true := decide_eq_true c13
          clear c13
          by_cases c14 : x21_2 < (l0_2.length : Int)
          ·
           rw [if_pos c14] at H
           have c14b0 : decide (x21_2 < (l0_2.length : Int)) = true := decide_eq_true c14
           clear c14
           by_cases c15 : (rd l0_2 x21_2) = 0
           ·
            rw [if_pos c15] at H
            have c15b0 : ((rd l0_2 x21_2) == 0) = true := beq_iff_eq.mpr c15
            have c15b1 : ((rd l0_2 x21_2) != 0) = false := bne_eq_false_iff_eq.mpr c15
            clear c15
            obtain rfl := Option.some.inj H
            have p2 : 0 ≤ (x21_2 : Int) := of_decide_eq_true (by first | (with_reducible assumption) | assumption)
            have q2 : x21_2 < (l0_2.length : Int) := of_decide_eq_true (by first | (with_reducible assumption) | assumption)
            obtain ⟨ad2, e2, hx2_0⟩ := Kd.at_int HR0_2.out x21_2 p2 q2
            cases e2
            replace hx2_0 := (HB.out.cell (World.block_lt_of_cell? w _ hx2_0)).trans hx2_0
            replace p2 := eq_true p2
            replace q2 := eq_true q2
            go_wp2
            go_ret
            exact ⟨by first | rfl | (simp [errW_none, errW_some] <;> rfl) | (simp [*, errW_none, errW_some] <;> rfl), hbW HB⟩
           ·
            rw [if_neg c15] at H
            have c15b0 : ((rd l0_2 x21_2) == 0) = false := beq_eq_false_iff_ne.mpr c15
            have c15b1 : ((rd l0_2 x21_2) != 0) = true := bne_iff_ne.mpr c15
            have H' := Aside0.mk H
            clear H
            have p2 : 0 ≤ (x21_2 : Int) := of_decide_eq_true (by first | (with_reducible assumption) | assumption)
            have q2 : x21_2 < (l0_2.length : Int) := of_decide_eq_true (by first | (with_reducible assumption) | assumption)
            obtain ⟨ad2, e2, hx2_0⟩ := Kd.at_int HR0_2.out x21_2 p2 q2
            cases e2
            replace hx2_0 := (HB.out.cell (World.block_lt_of_cell? w _ hx2_0)).trans hx2_0
            replace p2 := eq_true p2
            replace q2 := eq_true q2
            go_wp2
            go_roundg k2
            case measure => have := HJ1.out; have := HK2.out; omega
            case rel => exact ⟨(wrap64 (x21_2 + 1)), (by first | rfl | (simp; done) | (simp [*]; done)), H', ⟨by have := HJ1.out; have := HK2.out; omega⟩, ⟨by (with_reducible repeat (first | refine blk_drewN ?_ _ | refine blk_drew ?_ | refine blk_alloc ?_ _)); exact BK1.out⟩, ⟨hbW HB⟩⟩
          ·
           rw [if_neg c14] at H
           exact absurd H (by simp)
         ·
          rw [if_neg c13] at H
          exact absurd H (by simp)
        ·
         rw [if_neg c12] at H
         have c12b0 : decide (x21_2 < (l0_2.length : Int)) = false := decide_eq_false c12
         clear c12
         obtain rfl := Option.some.inj H
         obtain ⟨hcz16_0, hcz16_1, hcz16_2, hcz16_3, hfz16_0, hfz16_1, hfz16_2, hfz16_3⟩ := bc4 BK1
         go_wp2
         go_ret
         exact ⟨by first | rfl | (simp [errW_none, errW_some] <;> rfl) | (simp [*, errW_none, errW_some] <;> rfl), hbW HB⟩
     ·
      rw [if_neg c10] at H
      have c10b0 : (a0_0 == 5) = false := beq_eq_false_iff_ne.mpr c10
      have c10b1 : (a0_0 != 5) = true := bne_iff_ne.mpr c10
      have HC17 := Aside0.mk H
      clear H
      go_upto_if 32 with (fail)
      go_cut [32] (fun v32 wc => ∃ (kq : Nat) (x32_16 : Bool), v32 = .bool x32_16 ∧ Aside0 (q21z.j2 kq a0_0 x32_16 a0_0 a0_1 l0_2 l0_3 = some r) ∧ Aside0 (kq ≤ kj1) ∧ Aside0 (wc.heap[gb1]? = some (.cells #[.int .i64 a0_0, .int .u32 a0_1, (.slice A0_2 l0_2.length c0_2), (.slice A0_3 l0_3.length c0_3)] 26 (0, 0))) ∧ Aside0 (Below w.heap.size w wc))
      case first =>
       have H := HC17.out
       clear HC17
       by_cases c18 : a0_0 = 6
       ·
        rw [if_pos c18] at H
        have c18b0 : (a0_0 == 6) = true := beq_iff_eq.mpr c18
        have c18b1 : (a0_0 != 6) = false := bne_eq_false_iff_eq.mpr c18
        clear c18
        (first | rw [c18b0] | (simp only [i64_w, i32_w, IntKind.wrap_u32]; rw [c18b0]) | skip)
        have H' := Aside0.mk H
        clear H
        go_wp2
        go_meet
        case rel => exact ⟨_, ((a0_0 == 6)), (by first | rfl | (simp; done) | (simp [*]; done)), H', ⟨by have := HJ1.out; first | omega | exact Nat.le_refl _⟩, ⟨by (with_reducible repeat (first | refine blk_drewN ?_ _ | refine blk_drew ?_ | refine blk_alloc ?_ _)); exact BK1.out⟩, ⟨hbW HB⟩⟩
       ·
        rw [if_neg c18] at H
        have c18b0 : (a0_0 == 6) = false := beq_eq_false_iff_ne.mpr c18
        have c18b1 : (a0_0 != 6) = true := bne_iff_ne.mpr c18
        (first | rw [c18b0] | (simp only [i64_w, i32_w, IntKind.wrap_u32]; rw [c18b0]) | skip)
        have H' := Aside0.mk H
        clear H
        go_wp2
        go_meet
        case rel => exact ⟨_, ((a0_0 == 7)), (by first | rfl | (simp; done) | (simp [*]; done)), H', ⟨by have := HJ1.out; first | omega | exact Nat.le_refl _⟩, ⟨by (with_reducible repeat (first | refine blk_drewN ?_ _ | refine blk_drew ?_ | refine blk_alloc ?_ _)); exact BK1.out⟩, ⟨hbW HB⟩⟩
      case rest =>
       clear HC17
       try clear c1
       try clear p2
       try clear q2
       try clear hx2
       try clear c5
       try clear c5b0
       try clear c5b1
       try clear c6
       try clear c6b0
       try clear c6b1
       try clear p6
       try clear c7
       try clear c8
       try clear c8b0
       try clear c8b1
       try clear c10
       try clear c10b0
       try clear c10b1
       try clear c12
       try clear c12b0
       try clear c13
       try clear c13b0
       try clear c14
       try clear c14b0
       try clear c15
       try clear c15b0
       try clear c15b1
       try clear c18
       try clear c18b0
       try clear c18b1
       try clear hcz11_0
       try clear hcz11_1
       try clear hcz11_2
       try clear hcz11_3
       try clear hcz16_0
       try clear hcz16_1
       try clear hcz16_2
       try clear hcz16_3
       try clear hcz4_0
       try clear hcz4_1
       try clear hcz4_2
       try clear hcz4_3
       try clear hcz9_0
       try clear hcz9_1
       try clear hcz9_2
       try clear hcz9_3
       try clear hfz11_0
       try clear hfz11_1
       try clear hfz11_2
       try clear hfz11_3
       try clear hfz16_0
       try clear hfz16_1
       try clear hfz16_2
       try clear hfz16_3
       try clear hfz4_0
       try clear hfz4_1
       try clear hfz4_2
       try clear hfz4_3
       try clear hfz9_0
       try clear hfz9_1
       try clear hfz9_2
       try clear hfz9_3
       try clear hx2_0
       try clear p2
       try clear q2
       obtain ⟨kq, x32_16, rfl, HA, HJ16, BK1, HB⟩ := hcut
       cases kq with
       | zero => exact absurd HA.out (by simp [q21z.j2])
       | succ kj16 =>
        have H := HA.out
        clear HA
        simp only [q21z.j2] at H
        by_cases c19 : x32_16 = true
        ·
         subst c19
         have H1 : (some (decide ((l0_2.length : Int) ≤ 64))) = some r := by rw [if_pos rfl] at H; exact H
         clear H
         have H := H1
         clear H1
         obtain rfl := Option.some.inj H
         obtain ⟨hcz20_0, hcz20_1, hcz20_2, hcz20_3, hfz20_0, hfz20_1, hfz20_2, hfz20_3⟩ := bc4 BK1
         go_wp2
         go_ret
         exact ⟨by first | rfl | (simp [errW_none, errW_some] <;> rfl) | (simp [*, errW_none, errW_some] <;> rfl), hbW HB⟩
        ·
         replace c19 := Bool.eq_false_iff.mpr c19
         subst c19
         have H1 : (if a0_0 = 8 then ((q20z.f kj16 l0_3).bind fun t3 => (some t3)) else (some false)) = some r := by rw [if_neg (show ¬ (false = true) by decide)] at H; exact H
         clear H
         have H := H1
         clear H1
         by_cases c21 : a0_0 = 8
         ·
          rw [if_pos c21] at H
          have c21b0 : (a0_0 == 8) = true := beq_iff_eq.mpr c21
          have c21b1 : (a0_0 != 8) = false := bne_eq_false_iff_eq.mpr c21
          clear c21
          replace H := Option.bind_eq_some_iff.mp H
          obtain ⟨t3, A220, H⟩ := H
          replace H : (some t3) = some r := H
          have A22 := Aside0.mk A220
          clear A220
          obtain rfl := Option.some.inj H
          obtain ⟨hcz23_0, hcz23_1, hcz23_2, hcz23_3, hfz23_0, hfz23_1, hfz23_2, hfz23_3⟩ := bc4 BK1
          go_wp2_with (first | ((with_reducible refine gate_callee (f := 34) rfl ?_); refine goesL_ (some 43) rfl rfl Try.func34 (by kernel_rfl) rfl #[.slice A0_3 l0_3.length c0_3] rfl (by (try simp only [List.map_toArray, List.map_cons, List.map_nil]); first | done | rfl | (simp only [List.length_drop, List.length_take]; rfl)) ?_; (with_reducible refine (q20z.calls kj16 _ _ l0_3 t3 _ ?side1 ?side2 A22.out).mono ?_); (case side1 => repeat (first | exact (Kd.C_below HR0_3.out HB.out) | (with_reducible refine Kd.C_alloc ?_ _) | (with_reducible refine Kd.C_drewN ?_ _) | (with_reducible refine Kd.C_drew ?_))); (case side2 => exact HC0_3.out); rintro e w24 ⟨rfl, hb⟩; refine ⟨_, rfl, ?_⟩; replace BK1 := bkB BK1 hb; replace HB := hbS HB hb; (try clear hb)))
          go_ret
          exact ⟨by first | rfl | (simp [errW_none, errW_some] <;> rfl) | (simp [*, errW_none, errW_some] <;> rfl), hbW HB⟩
         ·
          rw [if_neg c21] at H
          have c21b0 : (a0_0 == 8) = false := beq_eq_false_iff_ne.mpr c21
          have c21b1 : (a0_0 != 8) = true := bne_iff_ne.mpr c21
          obtain rfl := Option.some.inj H
          go_wp2
          go_ret
          exact ⟨by first | rfl | (simp [errW_none, errW_some] <;> rfl) | (simp [*, errW_none, errW_some] <;> rfl), hbW HB⟩

end Go.Proofs.Ytgelpccjdndfoaa.P

namespace Go.Proofs.Ytgelpccjdndfoaa.P
open Go.RowKit Go.Proofs.YtgelpccjdndfoaaW.PrintWords Go.Proofs.YtgelpccjdndfoaaW.PrintLast Go.Proofs.YtgelpccjdndfoaaW.PrintMore
attribute [local go_sem] max2_int min2_int max_two min_two max_three min_three max_four min_four
set_option linter.unusedVariables false
set_option linter.unusedSimpArgs false

/-! ### dragomanref02_In: function 60 -/
def q22z.f (a0_0 : Int) (a0_1 : Int) (a1 : Int) : Option (Bool) := if ((Int.tdiv a1 65536) % 4294967296) ≥ ((Int.tdiv a0_0 65536) % 4294967296) then (if ((Int.tdiv a1 65536) % 4294967296) ≤ ((Int.tdiv a0_1 65536) % 4294967296) then (if (Int.tmod a1 65536) ≥ (Int.tmod a0_0 65536) then (some (decide ((Int.tmod a1 65536) ≤ (Int.tmod a0_1 65536)))) else (some false)) else (some false)) else (some false)
set_option maxHeartbeats 8000000 in
set_option maxRecDepth 100000 in
theorem q22z.calls (a0_0 : Int) (a0_1 : Int) (a1 : Int) (r : Bool) (w : World) (h : q22z.f a0_0 a0_1 a1 = some r) :
  Calls Try.prog 60 #[.agg #[.int .u32 a0_0, .int .u32 a0_1], .int .u32 a1] w fun e w' => e = .returned (.bool r) ∧ Below w.heap.size w w' := by
 have hu50 := Try.underlying50
 have HB := Aside0.mk (Below.refl w.heap.size w)
 have H : (if ((Int.tdiv a1 65536) % 4294967296) ≥ ((Int.tdiv a0_0 65536) % 4294967296) then (if ((Int.tdiv a1 65536) % 4294967296) ≤ ((Int.tdiv a0_1 65536) % 4294967296) then (if (Int.tmod a1 65536) ≥ (Int.tmod a0_0 65536) then (some (decide ((Int.tmod a1 65536) ≤ (Int.tmod a0_1 65536)))) else (some false)) else (some false)) else (some false)) = some r := h
 clear h
 by_cases c3 : ((Int.tdiv a1 65536) % 4294967296) ≥ ((Int.tdiv a0_0 65536) % 4294967296)
 ·
  rw [if_pos c3] at H
  have c3b0 : decide (((Int.tdiv a0_0 65536) % 4294967296) ≤ ((Int.tdiv a1 65536) % 4294967296)) = true := decide_eq_true c3
  clear c3
  by_cases c4 : ((Int.tdiv a1 65536) % 4294967296) ≤ ((Int.tdiv a0_1 65536) % 4294967296)
  ·
   rw [if_pos c4] at H
   have c4b0 : decide (((Int.tdiv a1 65536) % 4294967296) ≤ ((Int.tdiv a0_1 65536) % 4294967296)) = true := decide_eq_true c4
   clear c4
   by_cases c5 : (Int.tmod a1 65536) ≥ (Int.tmod a0_0 65536)
   ·
    rw [if_pos c5] at H
    have c5b0 : decide ((Int.tmod a0_0 65536) ≤ (Int.tmod a1 65536)) = true := decide_eq_true c5
    clear c5
    obtain rfl := Option.some.inj H
    go_enter Try.func60, Try.ntmps60
    go_wp2_with (first | ((with_reducible refine gate_dst (N := 2) rfl ?_); refine box_event ?hg (N := 2) ?hd (cs := #[.int .u32 a0_0, .int .u32 a0_1]) (t := 50) ?hr ?_; (case hd => rfl); (case hg => rfl); (case hr => first | (go_simp; done) | (go_simp; rfl)); intro gb1 hg w6 hbox hb; have BK1 := Aside0.mk (hbox); have GW1 := Aside0.mk ((by rw [hg]; exact (below_size (hbW HB)) : w.heap.size ≤ gb1)); have GE1 := Aside0.mk ((by rw [hg]; exact (below_size (hbW HB)) : w.heap.size ≤ gb1)); replace HB := hbS HB hb; clear hb hbox hg; obtain ⟨hcz7_0, hcz7_1, hfz7_0, hfz7_1⟩ := bc2 BK1))
    go_ret
    exact ⟨by first | rfl | (simp [errW_none, errW_some] <;> rfl) | (simp [*, errW_none, errW_some] <;> rfl), hbW HB⟩
   ·
    rw [if_neg c5] at H
    have c5b0 : decide ((Int.tmod a0_0 65536) ≤ (Int.tmod a1 65536)) = false := decide_eq_false c5
    clear c5
    obtain rfl := Option.some.inj H
    go_enter Try.func60, Try.ntmps60
    go_wp2_with (first | ((with_reducible refine gate_dst (N := 2) rfl ?_); refine box_event ?hg (N := 2) ?hd (cs := #[.int .u32 a0_0, .int .u32 a0_1]) (t := 50) ?hr ?_; (case hd => rfl); (case hg => rfl); (case hr => first | (go_simp; done) | (go_simp; rfl)); intro gb1 hg w8 hbox hb; have BK1 := Aside0.mk (hbox); have GW1 := Aside0.mk ((by rw [hg]; exact (below_size (hbW HB)) : w.heap.size ≤ gb1)); have GE1 := Aside0.mk ((by rw [hg]; exact (below_size (hbW HB)) : w.heap.size ≤ gb1)); replace HB := hbS HB hb; clear hb hbox hg; obtain ⟨hcz9_0, hcz9_1, hfz9_0, hfz9_1⟩ := bc2 BK1))
    go_ret
    exact ⟨by first | rfl | (simp [errW_none, errW_some] <;> rfl) | (simp [*, errW_none, errW_some] <;> rfl), hbW HB⟩
  ·
   rw [if_neg c4] at H
   have c4b0 : decide (((Int.tdiv a1 65536) % 4294967296) ≤ ((Int.tdiv a0_1 65536) % 4294967296)) = false := decide_eq_false c4
   clear c4
   obtain rfl := Option.some.inj H
   go_enter Try.func60, Try.ntmps60
   go_wp2_with (first | ((with_reducible refine gate_dst (N := 2) rfl ?_); refine box_event ?hg (N := 2) ?hd (cs := #[.int .u32 a0_0, .int .u32 a0_1]) (t := 50) ?hr ?_; (case hd => rfl); (case hg => rfl); (case hr => first | (go_simp; done) | (go_simp; rfl)); intro gb1 hg w10 hbox hb; have BK1 := Aside0.mk (hbox); have GW1 := Aside0.mk ((by rw [hg]; exact (below_size (hbW HB)) : w.heap.size ≤ gb1)); have GE1 := Aside0.mk ((by rw [hg]; exact (below_size (hbW HB)) : w.heap.size ≤ gb1)); replace HB := hbS HB hb; clear hb hbox hg; obtain ⟨hcz11_0, hcz11_1, hfz11_0, hfz11_1⟩ := bc2 BK1))
   go_ret
   exact ⟨by first | rfl | (simp [errW_none, errW_some] <;> rfl) | (simp [*, errW_none, errW_some] <;> rfl), hbW HB⟩
 ·
  rw [if_neg c3] at H
  have c3b0 : decide (((Int.tdiv a0_0 65536) % 4294967296) ≤ ((Int.tdiv a1 65536) % 4294967296)) = false := decide_eq_false c3
  clear c3
  obtain rfl := Option.some.inj H
  go_enter Try.func60, Try.ntmps60
  go_wp2_with (first | ((with_reducible refine gate_dst (N := 2) rfl ?_); refine box_event ?hg (N := 2) ?hd (cs := #[.int .u32 a0_0, .int .u32 a0_1]) (t := 50) ?hr ?_; (case hd => rfl); (case hg => rfl); (case hr => first | (go_simp; done) | (go_simp; rfl)); intro gb1 hg w12 hbox hb; have BK1 := Aside0.mk (hbox); have GW1 := Aside0.mk ((by rw [hg]; exact (below_size (hbW HB)) : w.heap.size ≤ gb1)); have GE1 := Aside0.mk ((by rw [hg]; exact (below_size (hbW HB)) : w.heap.size ≤ gb1)); replace HB := hbS HB hb; clear hb hbox hg; obtain ⟨hcz13_0, hcz13_1, hfz13_0, hfz13_1⟩ := bc2 BK1))
  go_ret
  exact ⟨by first | rfl | (simp [errW_none, errW_some] <;> rfl) | (simp [*, errW_none, errW_some] <;> rfl), hbW HB⟩

end Go.Proofs.Ytgelpccjdndfoaa.P

namespace Go.Proofs.Ytgelpccjdndfoaa.P
open Go.RowKit Go.Proofs.YtgelpccjdndfoaaW.PrintWords Go.Proofs.YtgelpccjdndfoaaW.PrintLast Go.Proofs.YtgelpccjdndfoaaW.PrintMore
attribute [local go_sem] max2_int min2_int max_two min_two max_three min_three max_four min_four
set_option linter.unusedVariables false
set_option linter.unusedSimpArgs false

/-! ### dragomanref11_all: function 39 -/
mutual
def q23z.l0 : Nat → List Int → List (S50) → Int → Int → Option (Bool)
 | 0, _, _, _, _ => none
 | k + 1, x1, x10, x11, x12 => if x12 < x11 then (if 0 ≤ x12 then (if x12 < (x10.length : Int) then (q23z.l1 k x1 false x10 x11 x12 x1 (x1.length : Int) 0 ((rd_T50 x10 x12).f0) ((rd_T50 x10 x12).f1)) else (none)) else (none)) else (some true)
def q23z.l1 : Nat → List Int → Bool → List (S50) → Int → Int → List Int → Int → Int → Int → Int → Option (Bool)
 | 0, _, _, _, _, _, _, _, _, _, _ => none
 | k + 1, x1, x7, x10, x11, x12, x16, x17, x18, x3000, x3001 => if x18 < x17 then (if 0 ≤ x18 then (if x18 < (x16.length : Int) then (if x7 = true then (q23z.l1 k x1 true x10 x11 x12 x16 x17 (wrap64 (x18 + 1)) x3000 x3001) else ((q22z.f x3000 x3001 (rd x16 x18)).bind fun t4 => (q23z.l1 k x1 t4 x10 x11 x12 x16 x17 (wrap64 (x18 + 1)) x3000 x3001))) else (none)) else (none)) else (if x7 = true then (q23z.l0 k x1 x10 x11 (wrap64 (x12 + 1))) else (some false))
end
def q23z.f (k : Nat) (l0 : List (S50)) (l1 : List Int) : Option (Bool) := q23z.l0 k l1 l0 (l0.length : Int) 0
theorem q23z.mono_l : ∀ k, (∀ y0 y1 y2 y3, LeO (q23z.l0 k y0 y1 y2 y3) (q23z.l0 (k + 1) y0 y1 y2 y3)) ∧ (∀ y0 y1 y2 y3 y4 y5 y6 y7 y8 y9, LeO (q23z.l1 k y0 y1 y2 y3 y4 y5 y6 y7 y8 y9) (q23z.l1 (k + 1) y0 y1 y2 y3 y4 y5 y6 y7 y8 y9))
 | 0 => ⟨fun _ _ _ _ r h => by simp [q23z.l0] at h, fun _ _ _ _ _ _ _ _ _ _ r h => by simp [q23z.l1] at h⟩
 | k + 1 => by
  obtain ⟨ih0, ih1⟩ := q23z.mono_l k
  refine ⟨?_, ?_⟩
  ·
   intro y0 y1 y2 y3
   unfold q23z.l0
   repeat' first
   | (with_reducible exact ih0 _ _ _ _)
   | (with_reducible exact ih1 _ _ _ _ _ _ _ _ _ _)
   | (with_reducible exact LeO.refl _)
   | (with_reducible exact LeO.none _)
   | (with_reducible refine LeO.ite ?_ ?_)
   | (with_reducible refine LeO.bind ?_ (fun _ => ?_))
   | exact ih0 _ _ _ _
   | exact ih1 _ _ _ _ _ _ _ _ _ _
   | exact LeO.none _
   | refine LeO.ite ?_ ?_
   | refine LeO.bind ?_ (fun _ => ?_)
  ·
   intro y0 y1 y2 y3 y4 y5 y6 y7 y8 y9
   unfold q23z.l1
   repeat' first
   | (with_reducible exact ih0 _ _ _ _)
   | (with_reducible exact ih1 _ _ _ _ _ _ _ _ _ _)
   | (with_reducible exact LeO.refl _)
   | (with_reducible exact LeO.none _)
   | (with_reducible refine LeO.ite ?_ ?_)
   | (with_reducible refine LeO.bind ?_ (fun _ => ?_))
   | exact ih0 _ _ _ _
   | exact ih1 _ _ _ _ _ _ _ _ _ _
   | exact LeO.none _
   | refine LeO.ite ?_ ?_
   | refine LeO.bind ?_ (fun _ => ?_)
theorem q23z.mono : ∀ a0 a1 k, LeO (q23z.f k a0 a1) (q23z.f (k + 1) a0 a1) := by
 intro a0 a1 k
 obtain ⟨ih0, ih1⟩ := q23z.mono_l k
 unfold q23z.f
 repeat' first
   | (with_reducible exact ih0 _ _ _ _)
   | (with_reducible exact ih1 _ _ _ _ _ _ _ _ _ _)
   | (with_reducible exact LeO.refl _)
   | (with_reducible exact LeO.none _)
   | (with_reducible refine LeO.ite ?_ ?_)
   | (with_reducible refine LeO.bind ?_ (fun _ => ?_))
   | exact ih0 _ _ _ _
   | exact ih1 _ _ _ _ _ _ _ _ _ _
   | exact LeO.none _
   | refine LeO.ite ?_ ?_
   | refine LeO.bind ?_ (fun _ => ?_)
set_option maxHeartbeats 8000000 in
set_option maxRecDepth 100000 in
theorem q23z.calls (k : Nat) (A0 : Option Addr) (c0 : Nat) (l0 : List (S50)) (A1 : Option Addr) (c1 : Nat) (l1 : List Int) (r : Bool) (w : World) (hr0 : Kd.C k50 w A0 l0.length l0) (hc0 : l0.length ≤ c0) (hr1 : Kd.C (Kd.int .u32) w A1 l1.length l1) (hc1 : l1.length ≤ c1) (h : q23z.f k l0 l1 = some r) :
  Calls Try.prog 39 #[.slice A0 l0.length c0, .slice A1 l1.length c1] w fun e w' => e = .returned (.bool r) ∧ Below w.heap.size w w' := by
 have hu50 := Try.underlying50
 have HR0 := Aside0.mk hr0
 have HC0 := Aside0.mk hc0
 clear hr0 hc0
 have HR1 := Aside0.mk hr1
 have HC1 := Aside0.mk hc1
 clear hr1 hc1
 have HB := Aside0.mk (Below.refl w.heap.size w)
 have H : (q23z.l0 k l1 l0 (l0.length : Int) 0) = some r := h
 clear h
 have H' := Aside0.mk H
 clear H
 go_enter Try.func39, Try.ntmps39
 go_wp2
 go_loopg [12] k (fun kq v12 w' => ∃ (x12_1 : Int), v12 = .int .i64 x12_1 ∧ Aside0 (q23z.l0 kq l1 l0 (l0.length : Int) x12_1 = some r) ∧ Aside0 (kq ≤ k) ∧ Aside0 (Below w.heap.size w w'))
 case atStart => exact ⟨(0), (by first | rfl | (simp; done) | (simp [*]; done)), H', ⟨Nat.le_refl _⟩, ⟨hbW HB⟩⟩
 case round =>
  clear H'
  try clear c1
  try clear p2
  obtain ⟨x12_1, rfl, HA, HK1, HB⟩ := hrel
  cases gk with
  | zero => exact absurd HA.out (by simp [q23z.l0])
  | succ k1 =>
   have H := HA.out
   clear HA
   simp only [q23z.l0] at H
   by_cases c3 : x12_1 < (l0.length : Int)
   ·
    rw [if_pos c3] at H
    have c3b0 : decide (x12_1 < (l0.length : Int)) = true := decide_eq_true c3
    clear c3
    by_cases c4 : 0 ≤ x12_1
    ·
     rw [if_pos c4] at H
     have c4b0 : decide (0 ≤ x12_1) = true := decide_eq_true c4
     clear c4
     by_cases c5 : x12_1 < (l0.length : Int)
     ·
      rw [if_pos c5] at H
      have c5b0 : decide (x12_1 < (l0.length : Int)) = true := decide_eq_true c5
      clear c5
      have H' := Aside0.mk H
      clear H
      have p1 : 0 ≤ (x12_1 : Int) := of_decide_eq_true (by first | (with_reducible assumption) | assumption)
      have q1 : x12_1 < (l0.length : Int) := of_decide_eq_true (by first | (with_reducible assumption) | assumption)
      obtain ⟨ad1, e1, hx1_0, hx1_1⟩ := at_T50 HR0.out x12_1 p1 q1
      cases e1
      replace hx1_0 := (HB.out.cell (World.block_lt_of_cell? w _ hx1_0)).trans hx1_0
      replace hx1_1 := (HB.out.cell (World.block_lt_of_cell? w _ hx1_1)).trans hx1_1
      replace p1 := eq_true p1
      replace q1 := eq_true q1
      go_wp2_with (first | ((with_reducible refine gate_dst (N := 6) rfl ?_); refine box_event ?hg (N := 6) ?hd (cs := #[.int .u32 0, .int .u32 0]) (t := 50) ?hr ?_; (case hd => rfl); (case hg => rfl); (case hr => first | (go_simp; done) | (go_simp; rfl)); intro gb2 hg w6 hbox hb; have BK2 := Aside0.mk (hbox); have GW2 := Aside0.mk ((by rw [hg]; exact (below_size (hbW HB)) : w.heap.size ≤ gb2)); have GE2 := Aside0.mk ((by rw [hg]; exact (below_size (hbW HB)) : w.heap.size ≤ gb2)); replace HB := hbS HB hb; clear hb hbox hg; obtain ⟨hcz7_0, hcz7_1, hfz7_0, hfz7_1⟩ := bc2 BK2))
      go_loopg [7, 18] k1 (fun kq v7 v18 w' => ∃ (x7_2 : Bool) (x18_2 : Int), v7 = .bool x7_2 ∧ v18 = .int .i64 x18_2 ∧ Aside0 (q23z.l1 kq l1 x7_2 l0 (l0.length : Int) x12_1 l1 (l1.length : Int) x18_2 ((rd_T50 l0 x12_1).f0) ((rd_T50 l0 x12_1).f1) = some r) ∧ Aside0 (kq ≤ k1) ∧ Aside0 (w'.heap[gb2]? = some (.cells #[.int .u32 ((rd_T50 l0 x12_1).f0), .int .u32 ((rd_T50 l0 x12_1).f1)] 50 (0, 0))) ∧ Aside0 (Below w.heap.size w w'))
      case atStart => exact ⟨(false), (0), (by first | rfl | (simp; done) | (simp [*]; done)), (by first | rfl | (simp; done) | (simp [*]; done)), H', ⟨Nat.le_refl _⟩, ⟨by (with_reducible repeat (first | refine blk_drewN ?_ _ | refine blk_drew ?_ | refine blk_alloc ?_ _)); refine blk_put (cs := #[.int .u32 ((rd_T50 l0 x12_1).f0), .int .u32 0]) ?_ 1 _ rfl; (with_reducible repeat (first | refine blk_drewN ?_ _ | refine blk_drew ?_ | refine blk_alloc ?_ _)); refine blk_put (cs := #[.int .u32 0, .int .u32 0]) ?_ 0 _ rfl; (with_reducible repeat (first | refine blk_drewN ?_ _ | refine blk_drew ?_ | refine blk_alloc ?_ _)); exact BK2.out⟩, ⟨hbW HB⟩⟩
      case round =>
       clear H'
       try clear c1
       try clear p1
       try clear q1
       try clear hx1
       try clear p2
       try clear c3
       try clear c3b0
       try clear c4
       try clear c4b0
       try clear c5
       try clear c5b0
       try clear hcz7_0
       try clear hcz7_1
       try clear hfz7_0
       try clear hfz7_1
       try clear hx1_0
       try clear hx1_1
       try clear p1
       try clear p2
       try clear q1
       obtain ⟨x7_2, x18_2, rfl, rfl, HA, HK2, BK2, HB⟩ := hrel
       cases gk with
       | zero => exact absurd HA.out (by simp [q23z.l1])
       | succ k2 =>
        have H := HA.out
        clear HA
        simp only [q23z.l1] at H
        by_cases c8 : x18_2 < (l1.length : Int)
        ·
         rw [if_pos c8] at H
         have c8b0 : decide (x18_2 < (l1.length : Int)) = true := decide_eq_true c8
         clear c8
         by_cases c9 : 0 ≤ x18_2
         ·
          rw [if_pos c9] at H
          have c9b0 : decide (0 ≤ x18_2) = true := decide_eq_true c9
          clear c9
          by_cases c10 : x18_2 < (l1.length : Int)
          ·
           rw [if_pos c10] at H
           have c10b0 : decide (x18_2 < (l1.length : Int)) = true := decide_eq_true c10
           clear c10
           by_cases c11 : x7_2 = true
           ·
            subst c11
            have H1 : (q23z.l1 k2 l1 true l0 (l0.length : Int) x12_1 l1 (l1.length : Int) (wrap64 (x18_2 + 1)) ((rd_T50 l0 x12_1).f0) ((rd_T50 l0 x12_1).f1)) = some r := by rw [if_pos rfl] at H; exact H
            clear H
            have H := H1
            clear H1
            have H' := Aside0.mk H
            clear H
            have p3 : 0 ≤ (x18_2 : Int) := of_decide_eq_true (by first | (with_reducible assumption) | assumption)
            have q3 : x18_2 < (l1.length : Int) := of_decide_eq_true (by first | (with_reducible assumption) | assumption)
            obtain ⟨ad3, e3, hx3_0⟩ := Kd.at_int HR1.out x18_2 p3 q3
            cases e3
            replace hx3_0 := (HB.out.cell (World.block_lt_of_cell? w _ hx3_0)).trans hx3_0
            replace p3 := eq_true p3
            replace q3 := eq_true q3
            go_wp2
            go_roundg k2
            case measure => have := HK1.out; have := HK2.out; omega
            case rel => exact ⟨(true), (wrap64 (x18_2 + 1)), (by first | rfl | (simp; done) | (simp [*]; done)), (by first | rfl | (simp; done) | (simp [*]; done)), H', ⟨by have := HK1.out; have := HK2.out; omega⟩, ⟨by (with_reducible repeat (first | refine blk_drewN ?_ _ | refine blk_drew ?_ | refine blk_alloc ?_ _)); exact BK2.out⟩, ⟨hbW HB⟩⟩
           ·
            replace c11 := Bool.eq_false_iff.mpr c11
            subst c11
            have H1 : ((q22z.f ((rd_T50 l0 x12_1).f0) ((rd_T50 l0 x12_1).f1) (rd l1 x18_2)).bind fun t4 => (q23z.l1 k2 l1 t4 l0 (l0.length : Int) x12_1 l1 (l1.length : Int) (wrap64 (x18_2 + 1)) ((rd_T50 l0 x12_1).f0) ((rd_T50 l0 x12_1).f1))) = some r := by rw [if_neg (show ¬ (false = true) by decide)] at H; exact H
            clear H
            have H := H1
            clear H1
            replace H := Option.bind_eq_some_iff.mp H
            obtain ⟨t4, A120, H⟩ := H
            replace H : (q23z.l1 k2 l1 t4 l0 (l0.length : Int) x12_1 l1 (l1.length : Int) (wrap64 (x18_2 + 1)) ((rd_T50 l0 x12_1).f0) ((rd_T50 l0 x12_1).f1)) = some r := H
            have A12 := Aside0.mk A120
            clear A120
            have H' := Aside0.mk H
            clear H
            have p3 : 0 ≤ (x18_2 : Int) := of_decide_eq_true (by first | (with_reducible assumption) | assumption)
            have q3 : x18_2 < (l1.length : Int) := of_decide_eq_true (by first | (with_reducible assumption) | assumption)
            obtain ⟨ad3, e3, hx3_0⟩ := Kd.at_int HR1.out x18_2 p3 q3
            cases e3
            replace hx3_0 := (HB.out.cell (World.block_lt_of_cell? w _ hx3_0)).trans hx3_0
            replace p3 := eq_true p3
            replace q3 := eq_true q3
            obtain ⟨hcz13_0, hcz13_1, hfz13_0, hfz13_1⟩ := bc2 BK2
            go_wp2_with (first | (go_at_call 60; (with_reducible refine (q22z.calls ((rd_T50 l0 x12_1).f0) ((rd_T50 l0 x12_1).f1) (rd l1 x18_2) t4 _ A12.out).mono ?_); rintro e w14 ⟨rfl, hb⟩; replace BK2 := bkB BK2 hb; replace HB := hbS HB hb; (try clear hb)))
            go_roundg k2
            case measure => have := HK1.out; have := HK2.out; omega
            case rel => exact ⟨(t4), (wrap64 (x18_2 + 1)), (by first | rfl | (simp; done) | (simp [*]; done)), (by first | rfl | (simp; done) | (simp [*]; done)), H', ⟨by have := HK1.out; have := HK2.out; omega⟩, ⟨by (with_reducible repeat (first | refine blk_drewN ?_ _ | refine blk_drew ?_ | refine blk_alloc ?_ _)); exact BK2.out⟩, ⟨hbW HB⟩⟩
          ·
           rw [if_neg c10] at H
           exact absurd H (by simp)
         ·
          rw [if_neg c9] at H
          exact absurd H (by simp)
        ·
         rw [if_neg c8] at H
         have c8b0 : decide (x18_2 < (l1.length : Int)) = false := decide_eq_false c8
         clear c8
         by_cases c15 : x7_2 = true
         ·
          subst c15
          have H1 : (q23z.l0 k2 l1 l0 (l0.length : Int) (wrap64 (x12_1 + 1))) = some r := by rw [if_pos rfl] at H; exact H
          clear H
          have H := H1
          clear H1
          have H' := Aside0.mk H
          clear H
          go_wp2
          go_roundg k2
          case measure => have := HK1.out; have := HK2.out; omega
          case rel => exact ⟨(wrap64 (x12_1 + 1)), (by first | rfl | (simp; done) | (simp [*]; done)), H', ⟨by have := HK1.out; have := HK2.out; omega⟩, ⟨hbW HB⟩⟩
         ·
          replace c15 := Bool.eq_false_iff.mpr c15
          subst c15
          have H1 : (some false) = some r := by rw [if_neg (show ¬ (false = true) by decide)] at H; exact H
          clear H
          have H := H1
          clear H1
          obtain rfl := Option.some.inj H
          go_wp2
          go_ret
          exact ⟨by first | rfl | (simp [errW_none, errW_some] <;> rfl) | (simp [*, errW_none, errW_some] <;> rfl), hbW HB⟩
     ·
      rw [if_neg c5] at H
      exact absurd H (by simp)
    ·
     rw [if_neg c4] at H
     exact absurd H (by simp)
   ·
    rw [if_neg c3] at H
    have c3b0 : decide (x12_1 < (l0.length : Int)) = false := decide_eq_false c3
    clear c3
    obtain rfl := Option.some.inj H
    go_wp2
    go_ret
    exact ⟨by first | rfl | (simp [errW_none, errW_some] <;> rfl) | (simp [*, errW_none, errW_some] <;> rfl), hbW HB⟩

end Go.Proofs.Ytgelpccjdndfoaa.P

namespace Go.Proofs.Ytgelpccjdndfoaa.P
open Go.RowKit Go.Proofs.YtgelpccjdndfoaaW.PrintWords Go.Proofs.YtgelpccjdndfoaaW.PrintLast Go.Proofs.YtgelpccjdndfoaaW.PrintMore
attribute [local go_sem] max2_int min2_int max_two min_two max_three min_three max_four min_four
set_option linter.unusedVariables false
set_option linter.unusedSimpArgs false

/-! ### dragomanref11_TakesComms: function 21 -/
def q24z.l0 : Nat → List Int → List (S53) → Int → Int → Option (Bool)
 | 0, _, _, _, _ => none
 | k + 1, x1, x7, x8, x9 => if x9 < x8 then (if 0 ≤ x9 then (if x9 < (x7.length : Int) then ((q23z.f k ((rd_T53 x7 x9).f1) x1).bind fun t3 => (if t3 = true then (some (!((rd_T53 x7 x9).f0))) else (q24z.l0 k x1 x7 x8 (wrap64 (x9 + 1))))) else (none)) else (none)) else (some false)
def q24z.f (k : Nat) (l0 : List (S53)) (l1 : List Int) : Option (Bool) := q24z.l0 k l1 l0 (l0.length : Int) 0
theorem q24z.mono_l : ∀ k, (∀ y0 y1 y2 y3, LeO (q24z.l0 k y0 y1 y2 y3) (q24z.l0 (k + 1) y0 y1 y2 y3))
 | 0 => fun _ _ _ _ r h => by simp [q24z.l0] at h
 | k + 1 => by
  have ih0 := q24z.mono_l k
  ·
   intro y0 y1 y2 y3
   unfold q24z.l0
   repeat' first
   | (with_reducible exact ih0 _ _ _ _)
   | (with_reducible exact q23z.mono _ _ _)
   | (with_reducible exact LeO.refl _)
   | (with_reducible exact LeO.none _)
   | (with_reducible refine LeO.ite ?_ ?_)
   | (with_reducible refine LeO.bind ?_ (fun _ => ?_))
   | exact ih0 _ _ _ _
   | exact q23z.mono _ _ _
   | exact LeO.none _
   | refine LeO.ite ?_ ?_
   | refine LeO.bind ?_ (fun _ => ?_)
theorem q24z.mono : ∀ a0 a1 k, LeO (q24z.f k a0 a1) (q24z.f (k + 1) a0 a1) := by
 intro a0 a1 k
 have ih0 := q24z.mono_l k
 unfold q24z.f
 repeat' first
   | (with_reducible exact ih0 _ _ _ _)
   | (with_reducible exact q23z.mono _ _ _)
   | (with_reducible exact LeO.refl _)
   | (with_reducible exact LeO.none _)
   | (with_reducible refine LeO.ite ?_ ?_)
   | (with_reducible refine LeO.bind ?_ (fun _ => ?_))
   | exact ih0 _ _ _ _
   | exact q23z.mono _ _ _
   | exact LeO.none _
   | refine LeO.ite ?_ ?_
   | refine LeO.bind ?_ (fun _ => ?_)
set_option maxHeartbeats 8000000 in
set_option maxRecDepth 100000 in
theorem q24z.calls (k : Nat) (A0 : Option Addr) (c0 : Nat) (l0 : List (S53)) (A1 : Option Addr) (c1 : Nat) (l1 : List Int) (r : Bool) (w : World) (hr0 : Kd.C k53 w A0 l0.length l0) (hc0 : l0.length ≤ c0) (hr1 : Kd.C (Kd.int .u32) w A1 l1.length l1) (hc1 : l1.length ≤ c1) (h : q24z.f k l0 l1 = some r) :
  Calls Try.prog 21 #[.slice A0 l0.length c0, .slice A1 l1.length c1] w fun e w' => e = .returned (.bool r) ∧ Below w.heap.size w w' := by
 have hu53 := Try.underlying53
 have HR0 := Aside0.mk hr0
 have HC0 := Aside0.mk hc0
 clear hr0 hc0
 have HR1 := Aside0.mk hr1
 have HC1 := Aside0.mk hc1
 clear hr1 hc1
 have HB := Aside0.mk (Below.refl w.heap.size w)
 have H : (q24z.l0 k l1 l0 (l0.length : Int) 0) = some r := h
 clear h
 have H' := Aside0.mk H
 clear H
 go_enter Try.func21, Try.ntmps21
 go_wp2
 go_loopg [9] k (fun kq v9 w' => ∃ (x9_1 : Int), v9 = .int .i64 x9_1 ∧ Aside0 (q24z.l0 kq l1 l0 (l0.length : Int) x9_1 = some r) ∧ Aside0 (kq ≤ k) ∧ Aside0 (Below w.heap.size w w'))
 case atStart => exact ⟨(0), (by first | rfl | (simp; done) | (simp [*]; done)), H', ⟨Nat.le_refl _⟩, ⟨hbW HB⟩⟩
 case round =>
  clear H'
  try clear c1
  try clear c2
  try clear p2
  obtain ⟨x9_1, rfl, HA, HK1, HB⟩ := hrel
  cases gk with
  | zero => exact absurd HA.out (by simp [q24z.l0])
  | succ k1 =>
   have H := HA.out
   clear HA
   simp only [q24z.l0] at H
   by_cases c3 : x9_1 < (l0.length : Int)
   ·
    rw [if_pos c3] at H
    have c3b0 : decide (x9_1 < (l0.length : Int)) = true := decide_eq_true c3
    clear c3
    by_cases c4 : 0 ≤ x9_1
    ·
     rw [if_pos c4] at H
     have c4b0 : decide (0 ≤ x9_1) = true := decide_eq_true c4
     clear c4
     by_cases c5 : x9_1 < (l0.length : Int)
     ·
      rw [if_pos c5] at H
      have c5b0 : decide (x9_1 < (l0.length : Int)) = true := decide_eq_true c5
      clear c5
      replace H := Option.bind_eq_some_iff.mp H
      obtain ⟨t3, A60, H⟩ := H
      replace H : (if t3 = true then (some (!((rd_T53 l0 x9_1).f0))) else (q24z.l0 k1 l1 l0 (l0.length : Int) (wrap64 (x9_1 + 1)))) = some r := H
      have A6 := Aside0.mk A60
      clear A60
      by_cases c7 : t3 = true
      ·
       subst c7
       have H1 : (some (!((rd_T53 l0 x9_1).f0))) = some r := by rw [if_pos rfl] at H; exact H
       clear H
       have H := H1
       clear H1
       obtain rfl := Option.some.inj H
       have p1 : 0 ≤ (x9_1 : Int) := of_decide_eq_true (by first | (with_reducible assumption) | assumption)
       have q1 : x9_1 < (l0.length : Int) := of_decide_eq_true (by first | (with_reducible assumption) | assumption)
       obtain ⟨ad1, A1_1, c1_1, e1, hx1_0, hx1_1, hl1_1, hi1_1⟩ := at_T53 HR0.out x9_1 p1 q1
       cases e1
       replace hx1_0 := (HB.out.cell (World.block_lt_of_cell? w _ hx1_0)).trans hx1_0
       replace hx1_1 := (HB.out.cell (World.block_lt_of_cell? w _ hx1_1)).trans hx1_1
       have HR1_1 := Aside0.mk hi1_1
       have HC1_1 := Aside0.mk hl1_1
       clear hi1_1 hl1_1
       replace p1 := eq_true p1
       replace q1 := eq_true q1
       go_wp2_with (first | ((with_reducible refine gate_dst (N := 6) rfl ?_); refine box_event ?hg (N := 6) ?hd (cs := #[.bool false, .slice none 0 0]) (t := 53) ?hr ?_; (case hd => rfl); (case hg => rfl); (case hr => first | (go_simp; done) | (go_simp; rfl)); intro gb2 hg w8 hbox hb; have BK2 := Aside0.mk (hbox); have GW2 := Aside0.mk ((by rw [hg]; exact (below_size (hbW HB)) : w.heap.size ≤ gb2)); have GE2 := Aside0.mk ((by rw [hg]; exact (below_size (hbW HB)) : w.heap.size ≤ gb2)); replace HB := hbS HB hb; clear hb hbox hg; obtain ⟨hcz9_0, hcz9_1, hfz9_0, hfz9_1⟩ := bc2 BK2) | ((with_reducible refine gate_callee (f := 39) rfl ?_); refine goesL_ (some 16) rfl rfl Try.func39 (by kernel_rfl) rfl #[.slice A1_1 ((rd_T53 l0 x9_1).f1).length c1_1, .slice A1 l1.length c1] rfl (by (try simp only [List.map_toArray, List.map_cons, List.map_nil]); first | done | rfl | (simp only [List.length_drop, List.length_take]; rfl)) ?_; (with_reducible refine (q23z.calls k1 _ _ ((rd_T53 l0 x9_1).f1) _ _ l1 true _ ?side1 ?side2 ?side3 ?side4 A6.out).mono ?_); (case side1 => exact Kd.C_below HR1_1.out (hbW HB)); (case side2 => exact HC1_1.out); (case side3 => exact Kd.C_below HR1.out (hbW HB)); (case side4 => exact HC1.out); rintro e w10 ⟨rfl, hb⟩; refine ⟨_, rfl, ?_⟩; replace BK2 := Aside0.mk (blk_below (g := gb2) (o := .cells #[.bool ((rd_T53 l0 x9_1).f0), .slice A1_1 ((rd_T53 l0 x9_1).f1).length c1_1] 53 (0, 0)) (bp2 BK2) hb); replace HB := hbS HB hb; (try clear hb); obtain ⟨hcz11_0, hcz11_1, hfz11_0, hfz11_1⟩ := bc2 BK2))
       go_ret
       exact ⟨by first | rfl | (simp [errW_none, errW_some] <;> rfl) | (simp [*, errW_none, errW_some] <;> rfl), hbW HB⟩
      ·
       replace c7 := Bool.eq_false_iff.mpr c7
       subst c7
       have H1 : (q24z.l0 k1 l1 l0 (l0.length : Int) (wrap64 (x9_1 + 1))) = some r := by rw [if_neg (show ¬ (false = true) by decide)] at H; exact H
       clear H
       have H := H1
       clear H1
       have H' := Aside0.mk H
       clear H
       have p1 : 0 ≤ (x9_1 : Int) := of_decide_eq_true (by first | (with_reducible assumption) | assumption)
       have q1 : x9_1 < (l0.length : Int) := of_decide_eq_true (by first | (with_reducible assumption) | assumption)
       obtain ⟨ad1, A1_1, c1_1, e1, hx1_0, hx1_1, hl1_1, hi1_1⟩ := at_T53 HR0.out x9_1 p1 q1
       cases e1
       replace hx1_0 := (HB.out.cell (World.block_lt_of_cell? w _ hx1_0)).trans hx1_0
       replace hx1_1 := (HB.out.cell (World.block_lt_of_cell? w _ hx1_1)).trans hx1_1
       have HR1_1 := Aside0.mk hi1_1
       have HC1_1 := Aside0.mk hl1_1
       clear hi1_1 hl1_1
       replace p1 := eq_true p1
       replace q1 := eq_true q1
       go_wp2_with (first | ((with_reducible refine gate_dst (N := 6) rfl ?_); refine box_event ?hg (N := 6) ?hd (cs := #[.bool false, .slice none 0 0]) (t := 53) ?hr ?_; (case hd => rfl); (case hg => rfl); (case hr => first | (go_simp; done) | (go_simp; rfl)); intro gb2 hg w12 hbox hb; have BK2 := Aside0.mk (hbox); have GW2 := Aside0.mk ((by rw [hg]; exact (below_size (hbW HB)) : w.heap.size ≤ gb2)); have GE2 := Aside0.mk ((by rw [hg]; exact (below_size (hbW HB)) : w.heap.size ≤ gb2)); replace HB := hbS HB hb; clear hb hbox hg; obtain ⟨hcz13_0, hcz13_1, hfz13_0, hfz13_1⟩ := bc2 BK2) | ((with_reducible refine gate_callee (f := 39) rfl ?_); refine goesL_ (some 16) rfl rfl Try.func39 (by kernel_rfl) rfl #[.slice A1_1 ((rd_T53 l0 x9_1).f1).length c1_1, .slice A1 l1.length c1] rfl (by (try simp only [List.map_toArray, List.map_cons, List.map_nil]); first | done | rfl | (simp only [List.length_drop, List.length_take]; rfl)) ?_; (with_reducible refine (q23z.calls k1 _ _ ((rd_T53 l0 x9_1).f1) _ _ l1 false _ ?side1 ?side2 ?side3 ?side4 A6.out).mono ?_); (case side1 => exact Kd.C_below HR1_1.out (hbW HB)); (case side2 => exact HC1_1.out); (case side3 => exact Kd.C_below HR1.out (hbW HB)); (case side4 => exact HC1.out); rintro e w14 ⟨rfl, hb⟩; refine ⟨_, rfl, ?_⟩; replace BK2 := Aside0.mk (blk_below (g := gb2) (o := .cells #[.bool ((rd_T53 l0 x9_1).f0), .slice A1_1 ((rd_T53 l0 x9_1).f1).length c1_1] 53 (0, 0)) (bp2 BK2) hb); replace HB := hbS HB hb; (try clear hb)))
       go_roundg k1
       case measure => have := HK1.out; omega
       case rel => exact ⟨(wrap64 (x9_1 + 1)), (by first | rfl | (simp; done) | (simp [*]; done)), H', ⟨by have := HK1.out; omega⟩, ⟨hbW HB⟩⟩
     ·
      rw [if_neg c5] at H
      exact absurd H (by simp)
    ·
     rw [if_neg c4] at H
     exact absurd H (by simp)
   ·
    rw [if_neg c3] at H
    have c3b0 : decide (x9_1 < (l0.length : Int)) = false := decide_eq_false c3
    clear c3
    obtain rfl := Option.some.inj H
    go_wp2
    go_ret
    exact ⟨by first | rfl | (simp [errW_none, errW_some] <;> rfl) | (simp [*, errW_none, errW_some] <;> rfl), hbW HB⟩

end Go.Proofs.Ytgelpccjdndfoaa.P

namespace Go.Proofs.Ytgelpccjdndfoaa.P
open Go.RowKit Go.Proofs.YtgelpccjdndfoaaW.PrintWords Go.Proofs.YtgelpccjdndfoaaW.PrintLast Go.Proofs.YtgelpccjdndfoaaW.PrintMore
attribute [local go_sem] max2_int min2_int max_two min_two max_three min_three max_four min_four
set_option linter.unusedVariables false
set_option linter.unusedSimpArgs false

/-! ### dragomanref03_Sorted: function 37 -/
mutual
def q25z.l0 : Nat → List Int → List Int → Int → Int → Option (List Int)
 | 0, _, _, _, _ => none
 | k + 1, x3, x8, x9, x10 => if x10 < x9 then (if 0 ≤ x10 then (if x10 < (x8.length : Int) then (q25z.l1 k x3 (rd x8 x10) 0 x8 x9 x10) else (none)) else (none)) else (some x3)
def q25z.j2 : Nat → List Int → Int → Int → List Int → Int → Int → Option (List Int)
 | 0, _, _, _, _, _, _ => none
 | k + 1, x3, x5, x6, x8, x9, x10 => if x6 < (x3.length : Int) then (if 0 ≤ x6 then (q25z.j3 k x3 x5 x6 x8 x9 x10 ((rd x3 x6) == x5)) else (none)) else (q25z.j3 k x3 x5 x6 x8 x9 x10 false)
def q25z.j3 : Nat → List Int → Int → Int → List Int → Int → Int → Bool → Option (List Int)
 | 0, _, _, _, _, _, _, _ => none
 | k + 1, x3, x5, x6, x8, x9, x10, x39 => if x39 = true then (q25z.l0 k x3 x8 x9 (wrap64 (x10 + 1))) else (if x3.length < 35184372088832 then ((some (x3 ++ [0] : List Int)).bind fun y4 => (q25z.l2 k y4 x5 x6 (wrap64 ((y4.length : Int) - 1)) x8 x9 x10)) else (none))
def q25z.l2 : Nat → List Int → Int → Int → Int → List Int → Int → Int → Option (List Int)
 | 0, _, _, _, _, _, _, _ => none
 | k + 1, x3, x5, x6, x7, x8, x9, x10 => if x7 > x6 then (if 0 ≤ (wrap64 (x7 - 1)) then (if (wrap64 (x7 - 1)) < (x3.length : Int) then (if 0 ≤ x7 then (if x7 < (x3.length : Int) then (q25z.l2 k (x3.set (x7 : Int).toNat (rd x3 (wrap64 (x7 - 1)))) x5 x6 (wrap64 (x7 - 1)) x8 x9 x10) else (none)) else (none)) else (none)) else (none)) else (if 0 ≤ x6 then (if x6 < (x3.length : Int) then (q25z.l0 k (x3.set (x6 : Int).toNat x5) x8 x9 (wrap64 (x10 + 1))) else (none)) else (none))
def q25z.l1 : Nat → List Int → Int → Int → List Int → Int → Int → Option (List Int)
 | 0, _, _, _, _, _, _ => none
 | k + 1, x3, x5, x6, x8, x9, x10 => if x6 < (x3.length : Int) then (if 0 ≤ x6 then (if (rd x3 x6) < x5 then (q25z.l1 k x3 x5 (wrap64 (x6 + 1)) x8 x9 x10) else (q25z.j2 k x3 x5 x6 x8 x9 x10)) else (none)) else (q25z.j2 k x3 x5 x6 x8 x9 x10)
end
def q25z.f (k : Nat) (l0 : List Int) : Option (List Int) := q25z.l0 k ([] : List Int) l0 (l0.length : Int) 0
theorem q25z.mono_l : ∀ k, (∀ y0 y1 y2 y3, LeO (q25z.l0 k y0 y1 y2 y3) (q25z.l0 (k + 1) y0 y1 y2 y3)) ∧ (∀ y0 y1 y2 y3 y4 y5, LeO (q25z.j2 k y0 y1 y2 y3 y4 y5) (q25z.j2 (k + 1) y0 y1 y2 y3 y4 y5)) ∧ (∀ y0 y1 y2 y3 y4 y5 y6, LeO (q25z.j3 k y0 y1 y2 y3 y4 y5 y6) (q25z.j3 (k + 1) y0 y1 y2 y3 y4 y5 y6)) ∧ (∀ y0 y1 y2 y3 y4 y5 y6, LeO (q25z.l2 k y0 y1 y2 y3 y4 y5 y6) (q25z.l2 (k + 1) y0 y1 y2 y3 y4 y5 y6)) ∧ (∀ y0 y1 y2 y3 y4 y5, LeO (q25z.l1 k y0 y1 y2 y3 y4 y5) (q25z.l1 (k + 1) y0 y1 y2 y3 y4 y5))
 | 0 => ⟨fun _ _ _ _ r h => by simp [q25z.l0] at h, fun _ _ _ _ _ _ r h => by simp [q25z.j2] at h, fun _ _ _ _ _ _ _ r h => by simp [q25z.j3] at h, fun _ _ _ _ _ _ _ r h => by simp [q25z.l2] at h, fun _ _ _ _ _ _ r h => by simp [q25z.l1] at h⟩
 | k + 1 => by
  obtain ⟨ih0, ih1, ih2, ih3, ih4⟩ := q25z.mono_l k
  refine ⟨?_, ?_, ?_, ?_, ?_⟩
  ·
   intro y0 y1 y2 y3
   unfold q25z.l0
   repeat' first
   | (with_reducible exact ih0 _ _ _ _)
   | (with_reducible exact ih1 _ _ _ _ _ _)
   | (with_reducible exact ih2 _ _ _ _ _ _ _)
   | (with_reducible exact ih3 _ _ _ _ _ _ _)
   | (with_reducible exact ih4 _ _ _ _ _ _)
   | (with_reducible exact LeO.refl _)
   | (with_reducible exact LeO.none _)
   | (with_reducible refine LeO.ite ?_ ?_)
   | (with_reducible refine LeO.bind ?_ (fun _ => ?_))
   | exact ih0 _ _ _ _
   | exact ih1 _ _ _ _ _ _
   | exact ih2 _ _ _ _ _ _ _
   | exact ih3 _ _ _ _ _ _ _
   | exact ih4 _ _ _ _ _ _
   | exact LeO.none _
   | refine LeO.ite ?_ ?_
   | refine LeO.bind ?_ (fun _ => ?_)
  ·
   intro y0 y1 y2 y3 y4 y5
   unfold q25z.j2
   repeat' first
   | (with_reducible exact ih0 _ _ _ _)
   | (with_reducible exact ih1 _ _ _ _ _ _)
   | (with_reducible exact ih2 _ _ _ _ _ _ _)
   | (with_reducible exact ih3 _ _ _ _ _ _ _)
   | (with_reducible exact ih4 _ _ _ _ _ _)
   | (with_reducible exact LeO.refl _)
   | (with_reducible exact LeO.none _)
   | (with_reducible refine LeO.ite ?_ ?_)
   | (with_reducible refine LeO.bind ?_ (fun _ => ?_))
   | exact ih0 _ _ _ _
   | exact ih1 _ _ _ _ _ _
   | exact ih2 _ _ _ _ _ _ _
   | exact ih3 _ _ _ _ _ _ _
   | exact ih4 _ _ _ _ _ _
   | exact LeO.none _
   | refine LeO.ite ?_ ?_
   | refine LeO.bind ?_ (fun _ => ?_)
  ·
   intro y0 y1 y2 y3 y4 y5 y6
   unfold q25z.j3
   repeat' first
   | (with_reducible exact ih0 _ _ _ _)
   | (with_reducible exact ih1 _ _ _ _ _ _)
   | (with_reducible exact ih2 _ _ _ _ _ _ _)
   | (with_reducible exact ih3 _ _ _ _ _ _ _)
   | (with_reducible exact ih4 _ _ _ _ _ _)
   | (with_reducible exact LeO.refl _)
   | (with_reducible exact LeO.none _)
   | (with_reducible refine LeO.ite ?_ ?_)
   | (with_reducible refine LeO.bind ?_ (fun _ => ?_))
   | exact ih0 _ _ _ _
   | exact ih1 _ _ _ _ _ _
   | exact ih2 _ _ _ _ _ _ _
   | exact ih3 _ _ _ _ _ _ _
   | exact ih4 _ _ _ _ _ _
   | exact LeO.none _
   | refine LeO.ite ?_ ?_
   | refine LeO.bind ?_ (fun _ => ?_)
  ·
   intro y0 y1 y2 y3 y4 y5 y6
   unfold q25z.l2
   repeat' first
   | (with_reducible exact ih0 _ _ _ _)
   | (with_reducible exact ih1 _ _ _ _ _ _)
   | (with_reducible exact ih2 _ _ _ _ _ _ _)
   | (with_reducible exact ih3 _ _ _ _ _ _ _)
   | (with_reducible exact ih4 _ _ _ _ _ _)
   | (with_reducible exact LeO.refl _)
   | (with_reducible exact LeO.none _)
   | (with_reducible refine LeO.ite ?_ ?_)
   | (with_reducible refine LeO.bind ?_ (fun _ => ?_))
   | exact ih0 _ _ _ _
   | exact ih1 _ _ _ _ _ _
   | exact ih2 _ _ _ _ _ _ _
   | exact ih3 _ _ _ _ _ _ _
   | exact ih4 _ _ _ _ _ _
   | exact LeO.none _
   | refine LeO.ite ?_ ?_
   | refine LeO.bind ?_ (fun _ => ?_)
  ·
   intro y0 y1 y2 y3 y4 y5
   unfold q25z.l1
   repeat' first
   | (with_reducible exact ih0 _ _ _ _)
   | (with_reducible exact ih1 _ _ _ _ _ _)
   | (with_reducible exact ih2 _ _ _ _ _ _ _)
   | (with_reducible exact ih3 _ _ _ _ _ _ _)
   | (with_reducible exact ih4 _ _ _ _ _ _)
   | (with_reducible exact LeO.refl _)
   | (with_reducible exact LeO.none _)
   | (with_reducible refine LeO.ite ?_ ?_)
   | (with_reducible refine LeO.bind ?_ (fun _ => ?_))
   | exact ih0 _ _ _ _
   | exact ih1 _ _ _ _ _ _
   | exact ih2 _ _ _ _ _ _ _
   | exact ih3 _ _ _ _ _ _ _
   | exact ih4 _ _ _ _ _ _
   | exact LeO.none _
   | refine LeO.ite ?_ ?_
   | refine LeO.bind ?_ (fun _ => ?_)
theorem q25z.mono : ∀ a0 k, LeO (q25z.f k a0) (q25z.f (k + 1) a0) := by
 intro a0 k
 obtain ⟨ih0, ih1, ih2, ih3, ih4⟩ := q25z.mono_l k
 unfold q25z.f
 repeat' first
   | (with_reducible exact ih0 _ _ _ _)
   | (with_reducible exact ih1 _ _ _ _ _ _)
   | (with_reducible exact ih2 _ _ _ _ _ _ _)
   | (with_reducible exact ih3 _ _ _ _ _ _ _)
   | (with_reducible exact ih4 _ _ _ _ _ _)
   | (with_reducible exact LeO.refl _)
   | (with_reducible exact LeO.none _)
   | (with_reducible refine LeO.ite ?_ ?_)
   | (with_reducible refine LeO.bind ?_ (fun _ => ?_))
   | exact ih0 _ _ _ _
   | exact ih1 _ _ _ _ _ _
   | exact ih2 _ _ _ _ _ _ _
   | exact ih3 _ _ _ _ _ _ _
   | exact ih4 _ _ _ _ _ _
   | exact LeO.none _
   | refine LeO.ite ?_ ?_
   | refine LeO.bind ?_ (fun _ => ?_)
set_option maxHeartbeats 8000000 in
set_option maxRecDepth 100000 in
theorem q25z.calls (k : Nat) (A0 : Option Addr) (c0 : Nat) (l0 : List Int) (r : List Int) (w : World) (hr0 : Kd.C (Kd.int .u32) w A0 l0.length l0) (hc0 : l0.length ≤ c0) (h : q25z.f k l0 = some r) :
  Calls Try.prog 37 #[.slice A0 l0.length c0] w fun e w' => ∃ v0_ : Value, e = .returned (v0_) ∧ Kd.R (Kd.int .u32) 22 w' w.heap.size (fun _ => True) v0_ r ∧ Below w.heap.size w w' := by
 have HR0 := Aside0.mk hr0
 have HC0 := Aside0.mk hc0
 clear hr0 hc0
 have HB := Aside0.mk (Below.refl w.heap.size w)
 have H : (q25z.l0 k ([] : List Int) l0 (l0.length : Int) 0) = some r := h
 clear h
 have H' := Aside0.mk H
 clear H
 go_enter Try.func37, Try.ntmps37
 go_wp2
 go_loopg [3, 10] k (fun kq v3 v10 w' => ∃ (x3_1 : List Int) (x10_1 : Int), v10 = .int .i64 x10_1 ∧ Aside0 (q25z.l0 kq x3_1 l0 (l0.length : Int) x10_1 = some r) ∧ Aside0 (kq ≤ k) ∧ Aside0 (Kd.R (Kd.int .u32) 22 w' w.heap.size (fun _ => True) v3 x3_1) ∧ Aside0 (Below w.heap.size w w'))
 case atStart => exact ⟨(([] : List Int)), (0), (by first | rfl | (simp; done) | (simp [*]; done)), H', ⟨Nat.le_refl _⟩, ⟨by first | exact Kd.R_nil _ _ _ _ _ | exact Kd.N_nil _ _ _ _ _ | exact Kd.V_nil _ _ _ _ _ | exact Kd.Q_nil _ _ _ _ _ | exact Kd.S_nil _ _ _ _ _⟩, ⟨hbW HB⟩⟩
 case round =>
  clear H'
  obtain ⟨x3_1, x10_1, rfl, HA, HK1, HO_3, HB⟩ := hrel
  cases gk with
  | zero => exact absurd HA.out (by simp [q25z.l0])
  | succ k1 =>
   have H := HA.out
   clear HA
   simp only [q25z.l0] at H
   by_cases c2 : x10_1 < (l0.length : Int)
   ·
    rw [if_pos c2] at H
    have c2b0 : decide (x10_1 < (l0.length : Int)) = true := decide_eq_true c2
    clear c2
    by_cases c3 : 0 ≤ x10_1
    ·
     rw [if_pos c3] at H
     have c3b0 : decide (0 ≤ x10_1) = true := decide_eq_true c3
     clear c3
     by_cases c4 : x10_1 < (l0.length : Int)
     ·
      rw [if_pos c4] at H
      have c4b0 : decide (x10_1 < (l0.length : Int)) = true := decide_eq_true c4
      clear c4
      have HC5 := Aside0.mk H
      clear H
      have p1 : 0 ≤ (x10_1 : Int) := of_decide_eq_true (by first | (with_reducible assumption) | assumption)
      have q1 : x10_1 < (l0.length : Int) := of_decide_eq_true (by first | (with_reducible assumption) | assumption)
      obtain ⟨ad1, e1, hx1_0⟩ := Kd.at_int HR0.out x10_1 p1 q1
      cases e1
      replace hx1_0 := (HB.out.cell (World.block_lt_of_cell? w _ hx1_0)).trans hx1_0
      replace p1 := eq_true p1
      replace q1 := eq_true q1
      go_upto_block 2 with (fail)
      go_cut [6] (fun v6 wc => ∃ (kq : Nat) (x6_4 : Int), v6 = .int .i64 x6_4 ∧ Aside0 (q25z.j2 kq x3_1 (rd l0 x10_1) x6_4 l0 (l0.length : Int) x10_1 = some r) ∧ Aside0 (kq ≤ k1) ∧ Aside0 (Kd.R (Kd.int .u32) 22 wc w.heap.size (fun _ => True) u3 x3_1) ∧ Aside0 (Below w.heap.size w wc))
      case first =>
       have H := HC5.out
       clear HC5
       have H' := Aside0.mk H
       clear H
       go_wp2
       go_loopg [6] k1 (fun kq v6 w' => ∃ (x6_2 : Int), v6 = .int .i64 x6_2 ∧ Aside0 (q25z.l1 kq x3_1 (rd l0 x10_1) x6_2 l0 (l0.length : Int) x10_1 = some r) ∧ Aside0 (kq ≤ k1) ∧ Aside0 (Kd.R (Kd.int .u32) 22 w' w.heap.size (fun _ => True) u3 x3_1) ∧ Aside0 (Below w.heap.size w w'))
       case atStart => exact ⟨(0), (by first | rfl | (simp; done) | (simp [*]; done)), H', ⟨Nat.le_refl _⟩, ⟨by (with_reducible repeat (first | apply Kd.R_alloc | apply Kd.R_drewN | apply Kd.R_drew)); exact HO_3.out⟩, ⟨hbW HB⟩⟩
       case round =>
        clear H'
        try clear p1
        try clear q1
        try clear hx1
        try clear c2
        try clear c2b0
        try clear p2
        try clear c3
        try clear c3b0
        try clear c4
        try clear c4b0
        try clear hx1_0
        try clear p1
        try clear q1
        obtain ⟨x6_2, rfl, HA, HK2, HO_3, HB⟩ := hrel
        cases gk with
        | zero => exact absurd HA.out (by simp [q25z.l1])
        | succ k2 =>
         have H := HA.out
         clear HA
         simp only [q25z.l1] at H
         by_cases c6 : x6_2 < (x3_1.length : Int)
         ·
          rw [if_pos c6] at H
          have c6b0 : decide (x6_2 < (x3_1.length : Int)) = true := decide_eq_true c6
          clear c6
          (first | rw [c6b0] | (simp only [i64_w, i32_w, IntKind.wrap_u32]; rw [c6b0]) | skip)
          by_cases c7 : 0 ≤ x6_2
          ·
           rw [if_pos c7] at H
           have c7b0 : decide (0 ≤ x6_2) = true := decide_eq_true c7
           clear c7
           by_cases c8 : (rd x3_1 x6_2) < (rd l0 x10_1)
           ·
            rw [if_pos c8] at H
            have c8b0 : decide ((rd x3_1 x6_2) < (rd l0 x10_1)) = true := decide_eq_true c8
            clear c8
            have H' := Aside0.mk H
            clear H
            obtain ⟨Ao9, co9, eo9⟩ := Kd.R_slice HO_3.out
            subst eo9
            have p2 : 0 ≤ (x6_2 : Int) := of_decide_eq_true (by first | (with_reducible assumption) | assumption)
            have q2 : x6_2 < (x3_1.length : Int) := of_decide_eq_true (by first | (with_reducible assumption) | assumption)
            obtain ⟨ad2, e2, hx2_0⟩ := Kd.at_int (Kd.R_reads' HO_3.out).2.2 x6_2 p2 q2
            cases e2
            replace p2 := eq_true p2
            replace q2 := eq_true q2
            go_wp2
            go_roundg k2
            case measure => have := HK1.out; have := HK2.out; omega
            case rel => exact ⟨(wrap64 (x6_2 + 1)), (by first | rfl | (simp; done) | (simp [*]; done)), H', ⟨by have := HK1.out; have := HK2.out; omega⟩, ⟨by (with_reducible repeat (first | apply Kd.R_alloc | apply Kd.R_drewN | apply Kd.R_drew)); exact HO_3.out⟩, ⟨hbW HB⟩⟩
           ·
            rw [if_neg c8] at H
            have c8b0 : decide ((rd x3_1 x6_2) < (rd l0 x10_1)) = false := decide_eq_false c8
            clear c8
            have H' := Aside0.mk H
            clear H
            obtain ⟨Ao10, co10, eo10⟩ := Kd.R_slice HO_3.out
            subst eo10
            have p2 : 0 ≤ (x6_2 : Int) := of_decide_eq_true (by first | (with_reducible assumption) | assumption)
            have q2 : x6_2 < (x3_1.length : Int) := of_decide_eq_true (by first | (with_reducible assumption) | assumption)
            obtain ⟨ad2, e2, hx2_0⟩ := Kd.at_int (Kd.R_reads' HO_3.out).2.2 x6_2 p2 q2
            cases e2
            replace p2 := eq_true p2
            replace q2 := eq_true q2
            go_wp2
            go_meet
            case rel => exact ⟨_, (x6_2), (by first | rfl | (simp; done) | (simp [*]; done)), H', ⟨by have := HK1.out; have := HK2.out; first | omega | exact Nat.le_refl _⟩, ⟨by (with_reducible repeat (first | apply Kd.R_alloc | apply Kd.R_drewN | apply Kd.R_drew)); exact HO_3.out⟩, ⟨hbW HB⟩⟩
          ·
           rw [if_neg c7] at H
           exact absurd H (by simp)
         ·
          rw [if_neg c6] at H
          have c6b0 : decide (x6_2 < (x3_1.length : Int)) = false := decide_eq_false c6
          clear c6
          (first | rw [c6b0] | (simp only [i64_w, i32_w, IntKind.wrap_u32]; rw [c6b0]) | skip)
          have H' := Aside0.mk H
          clear H
          obtain ⟨Ao11, co11, eo11⟩ := Kd.R_slice HO_3.out
          subst eo11
          go_wp2
          go_meet
          case rel => exact ⟨_, (x6_2), (by first | rfl | (simp; done) | (simp [*]; done)), H', ⟨by have := HK1.out; have := HK2.out; first | omega | exact Nat.le_refl _⟩, ⟨by (with_reducible repeat (first | apply Kd.R_alloc | apply Kd.R_drewN | apply Kd.R_drew)); exact HO_3.out⟩, ⟨hbW HB⟩⟩
      case rest =>
       clear HC5
       try clear p1
       try clear q1
       try clear hx1
       try clear c2
       try clear c2b0
       try clear p2
       try clear q2
       try clear hx2
       try clear c3
       try clear c3b0
       try clear c4
       try clear c4b0
       try clear c6
       try clear c6b0
       try clear p6
       try clear c7
       try clear c7b0
       try clear c8
       try clear c8b0
       try clear hx1_0
       try clear hx2_0
       try clear p1
       try clear p2
       try clear q1
       try clear q2
       obtain ⟨kq, x6_4, rfl, HA, HJ4, HO_3, HB⟩ := hcut
       cases kq with
       | zero => exact absurd HA.out (by simp [q25z.j2])
       | succ kj4 =>
        have H := HA.out
        clear HA
        simp only [q25z.j2] at H
        have HC12 := Aside0.mk H
        clear H
        go_upto_region 8 with (fail)
        go_cut [39] (fun v39 wc => ∃ (kq : Nat) (x39_11 : Bool), v39 = .bool x39_11 ∧ Aside0 (q25z.j3 kq x3_1 (rd l0 x10_1) x6_4 l0 (l0.length : Int) x10_1 x39_11 = some r) ∧ Aside0 (kq ≤ kj4) ∧ Aside0 (Kd.R (Kd.int .u32) 22 wc w.heap.size (fun _ => True) u3 x3_1) ∧ Aside0 (Below w.heap.size w wc))
        case first =>
         have H := HC12.out
         clear HC12
         by_cases c13 : x6_4 < (x3_1.length : Int)
         ·
          rw [if_pos c13] at H
          have c13b0 : decide (x6_4 < (x3_1.length : Int)) = true := decide_eq_true c13
          clear c13
          (first | rw [c13b0] | (simp only [i64_w, i32_w, IntKind.wrap_u32]; rw [c13b0]) | skip)
          by_cases c14 : 0 ≤ x6_4
          ·
           rw [if_pos c14] at H
           have c14b0 : decide (0 ≤ x6_4) = true := decide_eq_true c14
           clear c14
           have H' := Aside0.mk H
           clear H
           obtain ⟨Ao15, co15, eo15⟩ := Kd.R_slice HO_3.out
           subst eo15
           have p3 : 0 ≤ (x6_4 : Int) := of_decide_eq_true (by first | (with_reducible assumption) | assumption)
           have q3 : x6_4 < (x3_1.length : Int) := of_decide_eq_true (by first | (with_reducible assumption) | assumption)
           obtain ⟨ad3, e3, hx3_0⟩ := Kd.at_int (Kd.R_reads' HO_3.out).2.2 x6_4 p3 q3
           cases e3
           replace p3 := eq_true p3
           replace q3 := eq_true q3
           go_wp2
           go_meet
           case rel => exact ⟨_, (((rd x3_1 x6_4) == (rd l0 x10_1))), (by first | rfl | (simp; done) | (simp [*]; done)), H', ⟨by have := HK1.out; have := HJ4.out; first | omega | exact Nat.le_refl _⟩, ⟨by (with_reducible repeat (first | apply Kd.R_alloc | apply Kd.R_drewN | apply Kd.R_drew)); exact HO_3.out⟩, ⟨hbW HB⟩⟩
          ·
           rw [if_neg c14] at H
           exact absurd H (by simp)
         ·
          rw [if_neg c13] at H
          have c13b0 : decide (x6_4 < (x3_1.length : Int)) = false := decide_eq_false c13
          clear c13
          (first | rw [c13b0] | (simp only [i64_w, i32_w, IntKind.wrap_u32]; rw [c13b0]) | skip)
          have H' := Aside0.mk H
          clear H
          obtain ⟨Ao16, co16, eo16⟩ := Kd.R_slice HO_3.out
          subst eo16
          go_wp2
          go_meet
          case rel => exact ⟨_, (false), (by first | rfl | (simp; done) | (simp [*]; done)), H', ⟨by have := HK1.out; have := HJ4.out; first | omega | exact Nat.le_refl _⟩, ⟨by (with_reducible repeat (first | apply Kd.R_alloc | apply Kd.R_drewN | apply Kd.R_drew)); exact HO_3.out⟩, ⟨hbW HB⟩⟩
        case rest =>
         clear HC12
         try clear c1
         try clear p1
         try clear q1
         try clear hx1
         try clear c2
         try clear c2b0
         try clear p2
         try clear q2
         try clear hx2
         try clear c3
         try clear c3b0
         try clear p3
         try clear q3
         try clear hx3
         try clear c4
         try clear c4b0
         try clear c6
         try clear c6b0
         try clear p6
         try clear c7
         try clear c7b0
         try clear c8
         try clear c8b0
         try clear c13
         try clear c13b0
         try clear c14
         try clear c14b0
         try clear hx1_0
         try clear hx2_0
         try clear hx3_0
         try clear p1
         try clear p2
         try clear p3
         try clear p6
         try clear q1
         try clear q2
         try clear q3
         obtain ⟨kq, x39_11, rfl, HA, HJ11, HO_3, HB⟩ := hcut
         cases kq with
         | zero => exact absurd HA.out (by simp [q25z.j3])
         | succ kj11 =>
          have H := HA.out
          clear HA
          simp only [q25z.j3] at H
          by_cases c17 : x39_11 = true
          ·
           subst c17
           have H1 : (q25z.l0 kj11 x3_1 l0 (l0.length : Int) (wrap64 (x10_1 + 1))) = some r := by rw [if_pos rfl] at H; exact H
           clear H
           have H := H1
           clear H1
           have H' := Aside0.mk H
           clear H
           go_wp2
           go_roundg kj11
           case measure => have := HK1.out; have := HJ4.out; have := HJ11.out; omega
           case rel => exact ⟨(x3_1), (wrap64 (x10_1 + 1)), (by first | rfl | (simp; done) | (simp [*]; done)), H', ⟨by have := HK1.out; have := HJ4.out; have := HJ11.out; omega⟩, ⟨by (with_reducible repeat (first | apply Kd.R_alloc | apply Kd.R_drewN | apply Kd.R_drew)); exact HO_3.out⟩, ⟨hbW HB⟩⟩
          ·
           replace c17 := Bool.eq_false_iff.mpr c17
           subst c17
           have H1 : (if x3_1.length < 35184372088832 then ((some (x3_1 ++ [0] : List Int)).bind fun y4 => (q25z.l2 kj11 y4 (rd l0 x10_1) x6_4 (wrap64 ((y4.length : Int) - 1)) l0 (l0.length : Int) x10_1)) else (none)) = some r := by rw [if_neg (show ¬ (false = true) by decide)] at H; exact H
           clear H
           have H := H1
           clear H1
           by_cases c18 : x3_1.length < 35184372088832
           ·
            rw [if_pos c18] at H
            have LMc18 := Aside0.mk c18
            clear c18
            obtain ⟨y4, hy4⟩ : ∃ y_ : List Int, y_ = (x3_1 ++ [0]) := ⟨_, rfl⟩
            replace H : (q25z.l2 kj11 y4 (rd l0 x10_1) x6_4 (wrap64 ((y4.length : Int) - 1)) l0 (l0.length : Int) x10_1) = some r := by first | (rw [hy4]; with_reducible exact H) | (have H2_ := (Option.bind_some _ _).symm.trans H; rw [hy4]; with_reducible exact H2_) | (have H2_ := (Option.bind_some _ _).symm.trans H; with_reducible exact H2_) | with_reducible exact H | (rw [hy4]; exact H) | exact H
            have Ny4 := Aside0.mk hy4
            clear hy4
            have H' := Aside0.mk H
            clear H
            go_wp2_with (first | ((with_reducible refine gate_builtin (b := .append) (xs := #[.tmp 40, .tmp 41]) rfl ?_); at_builtin; refine Kd.R_append (Kd.int .u32) (w0 := w) w.heap.size rfl (.tmp 40) (.tmp 41) 23 22 (.int .u32 0) 4 rfl Try.underlying23 info22 rfl (by decide) (by omega) u3 x3_1 0 [.int .u32 0] (fun _ => True) (fun _ => False) rfl rfl ?aP (fun _ hk => hk.elim) ?aF ?aO ?aB ?aS ?aL ?_; (case aP => exact rfl); (case aB => exact (hbW HB)); (case aF => exact (fun _ _ => trivial)); (case aO => exact (rW HO_3)); (case aS => exact (below_size (hbW HB))); (case aL => have := LMc18.out; omega); intro v5 w19 ho hb hg hat; rw [← Ny4.out] at ho; have n0_ := Aside0.mk (hb); have n1_ := Aside0.mk (ho); clear HB; clear HO_3; have HB := n0_; have HO6 := n1_; clear n0_ n1_; clear ho hb hg hat; obtain ⟨Ao20, co20, eo20⟩ := Kd.R_slice HO6.out; subst eo20))
            go_loopg [7] kj11 (fun kq v7 w' => ∃ (x3_4 : List Int) (x7_4 : Int), v7 = .int .i64 x7_4 ∧ Aside0 (q25z.l2 kq x3_4 (rd l0 x10_1) x6_4 x7_4 l0 (l0.length : Int) x10_1 = some r) ∧ Aside0 (kq ≤ kj11) ∧ Aside0 (Kd.R (Kd.int .u32) 22 w' w.heap.size (fun _ => True) (.slice Ao20 y4.length co20) x3_4) ∧ Aside0 (Below w.heap.size w w'))
            case atStart => exact ⟨(y4), (wrap64 ((y4.length : Int) - 1)), (by first | rfl | (simp; done) | (simp [*]; done)), H', ⟨Nat.le_refl _⟩, ⟨by (with_reducible repeat (first | apply Kd.R_alloc | apply Kd.R_drewN | apply Kd.R_drew)); exact HO6.out⟩, ⟨hbW HB⟩⟩
            case round =>
             clear H'
             try clear c1
             try clear p1
             try clear q1
             try clear hx1
             try clear c2
             try clear c2b0
             try clear p2
             try clear q2
             try clear hx2
             try clear c3
             try clear c3b0
             try clear p3
             try clear q3
             try clear hx3
             try clear c4
             try clear c4b0
             try clear c6
             try clear c6b0
             try clear p6
             try clear c7
             try clear c7b0
             try clear c8
             try clear c8b0
             try clear c13
             try clear c13b0
             try clear c14
             try clear c14b0
             try clear c17
             try clear c18
             try clear hx1_0
             try clear hx2_0
             try clear hx3_0
             try clear p1
             try clear p2
             try clear p3
             try clear p6
             try clear q1
             try clear q2
             try clear q3
             obtain ⟨x3_4, x7_4, rfl, HA, HK4, HO_3, HB⟩ := hrel
             have hl3_4 := (Kd.R_reads' HO_3.out).1
             rw [hl3_4] at HO_3
             (try simp only [hl3_4])
             cases gk with
             | zero => exact absurd HA.out (by simp [q25z.l2])
             | succ k4 =>
              have H := HA.out
              clear HA
              simp only [q25z.l2] at H
              by_cases c21 : x7_4 > x6_4
              ·
               rw [if_pos c21] at H
               have c21b0 : decide (x6_4 < x7_4) = true := decide_eq_true c21
               clear c21
               obtain ⟨ji22, hji22⟩ : ∃ j_ : Int, (wrap64 (x7_4 - 1)) = j_ := ⟨_, rfl⟩
               replace H : (if 0 ≤ (ji22) then (if (ji22) < (x3_4.length : Int) then (if 0 ≤ x7_4 then (if x7_4 < (x3_4.length : Int) then (q25z.l2 k4 (x3_4.set (x7_4 : Int).toNat (rd x3_4 (ji22))) (rd l0 x10_1) x6_4 ji22 l0 (l0.length : Int) x10_1) else (none)) else (none)) else (none)) else (none)) = some r := by first | (rw [hji22] at H; exact H) | (simp only [hji22] at H ⊢; exact H)
               have hji22w : (IntKind.i64.wrap (x7_4 - 1)) = ji22 := (i64_w _).trans hji22
               by_cases c23 : 0 ≤ (ji22)
               ·
                rw [if_pos c23] at H
                have c23b0 : decide (0 ≤ (ji22)) = true := decide_eq_true c23
                clear c23
                by_cases c24 : (ji22) < (x3_4.length : Int)
                ·
                 rw [if_pos c24] at H
                 have c24b0 : decide ((ji22) < (x3_4.length : Int)) = true := decide_eq_true c24
                 clear c24
                 by_cases c25 : 0 ≤ x7_4
                 ·
                  rw [if_pos c25] at H
                  have c25b0 : decide (0 ≤ x7_4) = true := decide_eq_true c25
                  clear c25
                  by_cases c26 : x7_4 < (x3_4.length : Int)
                  ·
                   rw [if_pos c26] at H
                   have c26b0 : decide (x7_4 < (x3_4.length : Int)) = true := decide_eq_true c26
                   clear c26
                   obtain ⟨y8, hy8⟩ : ∃ y_ : List Int, y_ = (x3_4.set (x7_4 : Int).toNat (rd x3_4 (ji22))) := ⟨_, rfl⟩
                   replace H : (q25z.l2 k4 y8 (rd l0 x10_1) x6_4 ji22 l0 (l0.length : Int) x10_1) = some r := by first | (rw [hy8]; with_reducible exact H) | (have H2_ := (Option.bind_some _ _).symm.trans H; rw [hy8]; with_reducible exact H2_) | (have H2_ := (Option.bind_some _ _).symm.trans H; with_reducible exact H2_) | with_reducible exact H | (rw [hy8]; exact H) | exact H
                   have Ny8 := Aside0.mk hy8
                   clear hy8
                   have H' := Aside0.mk H
                   clear H
                   have p7 : 0 ≤ ((ji22) : Int) := of_decide_eq_true (by first | (with_reducible assumption) | assumption)
                   have q7 : (ji22) < (x3_4.length : Int) := of_decide_eq_true (by first | (with_reducible assumption) | assumption)
                   obtain ⟨ad7, e7, hx7_0⟩ := Kd.at_int (Kd.R_reads' HO_3.out).2.2 (ji22) p7 q7
                   cases e7
                   replace p7 := eq_true p7
                   replace q7 := eq_true q7
                   have p27 : 0 ≤ (x7_4 : Int) := of_decide_eq_true (by first | (with_reducible assumption) | assumption)
                   have q27 : (x7_4 : Int) < ((x3_4.length : Int) : Int) := of_decide_eq_true (by first | (with_reducible assumption) | assumption)
                   obtain ⟨go27, co27, eo27, gb27, gl27, cl27, HG27⟩ := Kd.R_form HO_3.out (by omega)
                   (first | cases eo27 | (injection eo27 with ea_ en_ ec_; (first | subst ea_ | (injection ea_ with ea_; subst ea_)); subst ec_; clear en_))
                   have GB27 := Aside0.mk gb27
                   have GG27 := Aside0.mk HG27
                   clear gb27 gl27 HG27
                   (first | simp only [add_plain] at hx7_0 | skip)
                   obtain ⟨hx27_0, hf27_0⟩ := Kd.R_celln 0 HO_3.out (x7_4 : Int) p27 q27
                   replace p27 := eq_true p27
                   replace q27 := eq_true q27
                   have HP28 := Kd.R_putg HO_3.out (x7_4 : Int) (rd x3_4 (ji22))
                   go_wp2_with (first | ((with_reducible refine gate_store (t := 22) (p := 58) rfl ?_); refine store_event (t := 22) (p := 58) (v := ?vo_w29) (w1 := (wr.setCell ⟨go27, (x7_4 : Int).toNat, none⟩ (.int .u32 (rd x3_4 (ji22))))) ?hg ?ho ?hn ?hr ?_; (case ho => rfl); (case hg => rfl); (case hn => rfl); (case hr => first | (go_simp; done) | (go_simp; rfl)); intro w29 hw; have hg : wr.grownBy w29 (some go27) := (by rw [hw]; exact HP28.2); have hp_ : Kd.R (Kd.int .u32) 22 w29 w.heap.size (fun _ => True) (.slice (some ⟨go27, 0, none⟩) x3_4.length co20) y8 := (by rw [hw, Ny8.out]; exact HP28.1); clear HP28; replace HO_3 := Aside0.mk (hp_); replace HB := Aside0.mk ((by rw [hw]; exact below_set (HB.out) GB27.out : Below w.heap.size w w29)); clear hg hw hp_))
                   (try simp only [← hl3_4])
                   go_roundg k4
                   case measure => have := HK1.out; have := HJ4.out; have := HJ11.out; have := HK4.out; omega
                   case rel => exact ⟨(y8), (ji22), (by first | rfl | (simp; done) | (simp only [← hji22] <;> (first | rfl | simp)) | (simp [*]; done)), H', ⟨by have := HK1.out; have := HJ4.out; have := HJ11.out; have := HK4.out; omega⟩, ⟨by (try simp only [hl3_4]); (with_reducible repeat (first | apply Kd.R_alloc | apply Kd.R_drewN | apply Kd.R_drew)); exact HO_3.out⟩, ⟨hbW HB⟩⟩
                  ·
                   rw [if_neg c26] at H
                   exact absurd H (by simp)
                 ·
                  rw [if_neg c25] at H
                  exact absurd H (by simp)
                ·
                 rw [if_neg c24] at H
                 exact absurd H (by simp)
               ·
                rw [if_neg c23] at H
                exact absurd H (by simp)
              ·
               rw [if_neg c21] at H
               have c21b0 : decide (x6_4 < x7_4) = false := decide_eq_false c21
               clear c21
               by_cases c30 : 0 ≤ x6_4
               ·
                rw [if_pos c30] at H
                have c30b0 : decide (0 ≤ x6_4) = true := decide_eq_true c30
                clear c30
                by_cases c31 : x6_4 < (x3_4.length : Int)
                ·
                 rw [if_pos c31] at H
                 have c31b0 : decide (x6_4 < (x3_4.length : Int)) = true := decide_eq_true c31
                 clear c31
                 obtain ⟨y9, hy9⟩ : ∃ y_ : List Int, y_ = (x3_4.set (x6_4 : Int).toNat (rd l0 x10_1)) := ⟨_, rfl⟩
                 replace H : (q25z.l0 k4 y9 l0 (l0.length : Int) (wrap64 (x10_1 + 1))) = some r := by first | (rw [hy9]; with_reducible exact H) | (have H2_ := (Option.bind_some _ _).symm.trans H; rw [hy9]; with_reducible exact H2_) | (have H2_ := (Option.bind_some _ _).symm.trans H; with_reducible exact H2_) | with_reducible exact H | (rw [hy9]; exact H) | exact H
                 have Ny9 := Aside0.mk hy9
                 clear hy9
                 have H' := Aside0.mk H
                 clear H
                 have p32 : 0 ≤ (x6_4 : Int) := of_decide_eq_true (by first | (with_reducible assumption) | assumption)
                 have q32 : (x6_4 : Int) < ((x3_4.length : Int) : Int) := of_decide_eq_true (by first | (with_reducible assumption) | assumption)
                 obtain ⟨go32, co32, eo32, gb32, gl32, cl32, HG32⟩ := Kd.R_form HO_3.out (by omega)
                 (first | cases eo32 | (injection eo32 with ea_ en_ ec_; (first | subst ea_ | (injection ea_ with ea_; subst ea_)); subst ec_; clear en_))
                 have GB32 := Aside0.mk gb32
                 have GG32 := Aside0.mk HG32
                 clear gb32 gl32 HG32
                 obtain ⟨hx32_0, hf32_0⟩ := Kd.R_celln 0 HO_3.out (x6_4 : Int) p32 q32
                 replace p32 := eq_true p32
                 replace q32 := eq_true q32
                 have HP33 := Kd.R_putg HO_3.out (x6_4 : Int) (rd l0 x10_1)
                 go_wp2_with (first | ((with_reducible refine gate_store (t := 22) (p := 62) rfl ?_); refine store_event (t := 22) (p := 62) (v := ?vo_w34) (w1 := (wr.setCell ⟨go32, (x6_4 : Int).toNat, none⟩ (.int .u32 (rd l0 x10_1)))) ?hg ?ho ?hn ?hr ?_; (case ho => rfl); (case hg => rfl); (case hn => rfl); (case hr => first | (go_simp; done) | (go_simp; rfl)); intro w34 hw; have hg : wr.grownBy w34 (some go32) := (by rw [hw]; exact HP33.2); have hp_ : Kd.R (Kd.int .u32) 22 w34 w.heap.size (fun _ => True) (.slice (some ⟨go32, 0, none⟩) x3_4.length co20) y9 := (by rw [hw, Ny9.out]; exact HP33.1); clear HP33; replace HO_3 := Aside0.mk (hp_); replace HB := Aside0.mk ((by rw [hw]; exact below_set (HB.out) GB32.out : Below w.heap.size w w34)); clear hg hw hp_))
                 (try simp only [← hl3_4])
                 go_roundg k4
                 case measure => have := HK1.out; have := HJ4.out; have := HJ11.out; have := HK4.out; omega
                 case rel => exact ⟨(y9), (wrap64 (x10_1 + 1)), (by first | rfl | (simp; done) | (simp [*]; done)), H', ⟨by have := HK1.out; have := HJ4.out; have := HJ11.out; have := HK4.out; omega⟩, ⟨by (try simp only [hl3_4]); (with_reducible repeat (first | apply Kd.R_alloc | apply Kd.R_drewN | apply Kd.R_drew)); exact HO_3.out⟩, ⟨hbW HB⟩⟩
                ·
                 rw [if_neg c31] at H
                 exact absurd H (by simp)
               ·
                rw [if_neg c30] at H
                exact absurd H (by simp)
           ·
            rw [if_neg c18] at H
            exact absurd H (by simp)
     ·
      rw [if_neg c4] at H
      exact absurd H (by simp)
    ·
     rw [if_neg c3] at H
     exact absurd H (by simp)
   ·
    rw [if_neg c2] at H
    have c2b0 : decide (x10_1 < (l0.length : Int)) = false := decide_eq_false c2
    clear c2
    obtain rfl := Option.some.inj H
    go_wp2
    go_ret
    exact ⟨_, by first | rfl | (simp [errW_none, errW_some] <;> rfl) | (simp [*, errW_none, errW_some] <;> rfl), by (with_reducible repeat (first | apply Kd.R_alloc | apply Kd.R_drewN | apply Kd.R_drew)); exact HO_3.out, hbW HB⟩

end Go.Proofs.Ytgelpccjdndfoaa.P

namespace Go.Proofs.Ytgelpccjdndfoaa.P
open Go.RowKit Go.Proofs.YtgelpccjdndfoaaW.PrintWords Go.Proofs.YtgelpccjdndfoaaW.PrintLast Go.Proofs.YtgelpccjdndfoaaW.PrintMore
attribute [local go_sem] max2_int min2_int max_two min_two max_three min_three max_four min_four
set_option linter.unusedVariables false
set_option linter.unusedSimpArgs false

/-! ### dragomanref12_Do: function 17 -/
def q26z.l0 : Nat → List Int → List Int → Int → Int → Int → Int → List Int → List (S53) → Int → Int → List Int → List Int → Int → Int → Int → Int → Option (Int × Int × List Int × List Int × Int × Int × Int × Int)
 | 0, _, _, _, _, _, _, _, _, _, _, _, _, _, _, _, _ => none
 | k + 1, x5, x65, x66, x67, x2000, x2001, x2002, x2003, x3000, x3001, x3002, x3003, x3004, x3005, x3006, x3007 => if x67 < x66 then (if 0 ≤ x67 then (if x67 < (x65.length : Int) then ((q24z.f k x2003 (([rd x65 x67] : List Int))).bind fun t39 => (if t39 = true then (q26z.l0 k x5 x65 x66 (wrap64 (x67 + 1)) x2000 x2001 x2002 x2003 x3000 x3001 x3002 x3003 x3004 x3005 x3006 x3007) else (if x5.length < 35184372088832 then (q26z.l0 k (x5 ++ [rd x65 x67]) x65 x66 (wrap64 (x67 + 1)) x2000 x2001 x2002 x2003 x3000 x3001 x3002 x3003 x3004 x3005 x3006 x3007) else (none)))) else (none)) else (none)) else ((q25z.f k x5).bind fun t43 => (some (x3000, x3001, x3002, t43, x3004, x3005, x3006, x3007)))
def q26z.f (k : Nat) (a0_0 : Int) (a0_1 : Int) (l0_2 : List Int) (l0_3 : List (S53)) (a1_0 : Int) (a1_1 : Int) (l1_2 : List Int) (l1_3 : List Int) (a1_4 : Int) (a1_5 : Int) (a1_6 : Int) (a1_7 : Int) : Option (Int × Int × List Int × List Int × Int × Int × Int × Int) := (q2z.f a1_0 a1_1 l1_2 l1_3 a1_4 a1_5 a1_6 a1_7).bind fun bt4 => ((q21z.f k a0_0 a0_1 l0_2 l0_3).bind fun t16 => (if t16 = true then (if a0_0 = 1 then (some (bt4.1, bt4.2.1, bt4.2.2.1, bt4.2.2.2.1, a0_1, bt4.2.2.2.2.2.1, bt4.2.2.2.2.2.2.1, bt4.2.2.2.2.2.2.2)) else (if a0_0 = 2 then (some (bt4.1, bt4.2.1, bt4.2.2.1, bt4.2.2.2.1, bt4.2.2.2.2.1, a0_1, bt4.2.2.2.2.2.2.1, bt4.2.2.2.2.2.2.2)) else (if a0_0 = 3 then (some (bt4.1, bt4.2.1, bt4.2.2.1, bt4.2.2.2.1, bt4.2.2.2.2.1, bt4.2.2.2.2.2.1, wrap64 (a0_1), bt4.2.2.2.2.2.2.2)) else (if a0_0 = 4 then (some (bt4.1, bt4.2.1, bt4.2.2.1, bt4.2.2.2.1, bt4.2.2.2.2.1, bt4.2.2.2.2.2.1, bt4.2.2.2.2.2.2.1, a0_1)) else (if a0_0 = 5 then ((some (([] : List Int) : List Int)).bind fun y17 => (if y17.length + l0_2.length < 35184372088832 then ((some (y17 ++ l0_2 : List Int)).bind fun y20 => (if y20.length + bt4.2.2.1.length < 35184372088832 then (some (bt4.1, bt4.2.1, (y20 ++ bt4.2.2.1), bt4.2.2.2.1, bt4.2.2.2.2.1, bt4.2.2.2.2.2.1, bt4.2.2.2.2.2.2.1, bt4.2.2.2.2.2.2.2)) else (none))) else (none))) else (if a0_0 = 6 then (if bt4.2.2.2.1.length + l0_2.length < 35184372088832 then ((q25z.f k (bt4.2.2.2.1 ++ l0_2)).bind fun t29 => (some (bt4.1, bt4.2.1, bt4.2.2.1, t29, bt4.2.2.2.2.1, bt4.2.2.2.2.2.1, bt4.2.2.2.2.2.2.1, bt4.2.2.2.2.2.2.2))) else (none)) else (if a0_0 = 7 then ((q25z.f k l0_2).bind fun t32 => (some (bt4.1, bt4.2.1, bt4.2.2.1, t32, bt4.2.2.2.2.1, bt4.2.2.2.2.2.1, bt4.2.2.2.2.2.2.1, bt4.2.2.2.2.2.2.2))) else (if a0_0 = 8 then (q26z.l0 k ([] : List Int) bt4.2.2.2.1 (bt4.2.2.2.1.length : Int) 0 a0_0 a0_1 l0_2 l0_3 bt4.1 bt4.2.1 bt4.2.2.1 bt4.2.2.2.1 bt4.2.2.2.2.1 bt4.2.2.2.2.2.1 bt4.2.2.2.2.2.2.1 bt4.2.2.2.2.2.2.2) else (some (bt4.1, bt4.2.1, bt4.2.2.1, bt4.2.2.2.1, bt4.2.2.2.2.1, bt4.2.2.2.2.2.1, bt4.2.2.2.2.2.2.1, bt4.2.2.2.2.2.2.2)))))))))) else (some (bt4.1, bt4.2.1, bt4.2.2.1, bt4.2.2.2.1, bt4.2.2.2.2.1, bt4.2.2.2.2.2.1, bt4.2.2.2.2.2.2.1, bt4.2.2.2.2.2.2.2))))
theorem q26z.mono_l : ∀ k, (∀ y0 y1 y2 y3 y4 y5 y6 y7 y8 y9 y10 y11 y12 y13 y14 y15, LeO (q26z.l0 k y0 y1 y2 y3 y4 y5 y6 y7 y8 y9 y10 y11 y12 y13 y14 y15) (q26z.l0 (k + 1) y0 y1 y2 y3 y4 y5 y6 y7 y8 y9 y10 y11 y12 y13 y14 y15))
 | 0 => fun _ _ _ _ _ _ _ _ _ _ _ _ _ _ _ _ r h => by simp [q26z.l0] at h
 | k + 1 => by
  have ih0 := q26z.mono_l k
  ·
   intro y0 y1 y2 y3 y4 y5 y6 y7 y8 y9 y10 y11 y12 y13 y14 y15
   unfold q26z.l0
   repeat' first
   | (with_reducible exact ih0 _ _ _ _ _ _ _ _ _ _ _ _ _ _ _ _)
   | (with_reducible exact q25z.mono _ _)
   | (with_reducible exact q24z.mono _ _ _)
   | (with_reducible exact q21z.mono _ _ _ _ _)
   | (with_reducible exact LeO.refl _)
   | (with_reducible exact LeO.none _)
   | (with_reducible refine LeO.ite ?_ ?_)
   | (with_reducible refine LeO.bind ?_ (fun _ => ?_))
   | exact ih0 _ _ _ _ _ _ _ _ _ _ _ _ _ _ _ _
   | exact q25z.mono _ _
   | exact q24z.mono _ _ _
   | exact q21z.mono _ _ _ _ _
   | exact LeO.none _
   | refine LeO.ite ?_ ?_
   | refine LeO.bind ?_ (fun _ => ?_)
theorem q26z.mono : ∀ a0 a1 a2 a3 a4 a5 a6 a7 a8 a9 a10 a11 k, LeO (q26z.f k a0 a1 a2 a3 a4 a5 a6 a7 a8 a9 a10 a11) (q26z.f (k + 1) a0 a1 a2 a3 a4 a5 a6 a7 a8 a9 a10 a11) := by
 intro a0 a1 a2 a3 a4 a5 a6 a7 a8 a9 a10 a11 k
 have ih0 := q26z.mono_l k
 unfold q26z.f
 repeat' first
   | (with_reducible exact ih0 _ _ _ _ _ _ _ _ _ _ _ _ _ _ _ _)
   | (with_reducible exact q25z.mono _ _)
   | (with_reducible exact q24z.mono _ _ _)
   | (with_reducible exact q21z.mono _ _ _ _ _)
   | (with_reducible exact LeO.refl _)
   | (with_reducible exact LeO.none _)
   | (with_reducible refine LeO.ite ?_ ?_)
   | (with_reducible refine LeO.bind ?_ (fun _ => ?_))
   | exact ih0 _ _ _ _ _ _ _ _ _ _ _ _ _ _ _ _
   | exact q25z.mono _ _
   | exact q24z.mono _ _ _
   | exact q21z.mono _ _ _ _ _
   | exact LeO.none _
   | refine LeO.ite ?_ ?_
   | refine LeO.bind ?_ (fun _ => ?_)
def q26z.T14 : Bool × List (List Nat × List Nat) := (true, [([], []), ([], []), ([1], [1]), ([0, 2], [0, 2]), ([], []), ([4], [4]), ([3, 5, 3], [3, 5]), ([0, 1, 2, 3, 4, 5, 6], []), ([7, 6, 6, 0, 1, 2, 3, 4, 5, 6], [6, 7])])
def q26z.B14 : List Nat := [0, 0, 2, 7, 0, 16, 63, 127, 255]
theorem q26z.tab14 : rtab .any (opsOf Try.f17 14) = q26z.T14 := by kernel_rfl
theorem q26z.bits14 : waitsOk q26z.T14.2 q26z.B14 = true := by kernel_rfl
set_option maxHeartbeats 8000000 in
set_option maxRecDepth 100000 in
theorem q26z.calls (k : Nat) (a0_0 : Int) (a0_1 : Int) (A0_2 : Option Addr) (c0_2 : Nat) (l0_2 : List Int) (A0_3 : Option Addr) (c0_3 : Nat) (l0_3 : List (S53)) (a1_0 : Int) (a1_1 : Int) (A1_2 : Option Addr) (c1_2 : Nat) (l1_2 : List Int) (A1_3 : Option Addr) (c1_3 : Nat) (l1_3 : List Int) (a1_4 : Int) (a1_5 : Int) (a1_6 : Int) (a1_7 : Int) (r1 : Int) (r2 : Int) (r3 : List Int) (r4 : List Int) (r5 : Int) (r6 : Int) (r7 : Int) (r8 : Int) (w : World) (hr0_2 : Kd.C (Kd.int .u32) w A0_2 l0_2.length l0_2) (hc0_2 : l0_2.length ≤ c0_2) (hr0_3 : Kd.C k53 w A0_3 l0_3.length l0_3) (hc0_3 : l0_3.length ≤ c0_3) (hr1_2 : Kd.C (Kd.int .u32) w A1_2 l1_2.length l1_2) (hc1_2 : l1_2.length ≤ c1_2) (hr1_3 : Kd.C (Kd.int .u32) w A1_3 l1_3.length l1_3) (hc1_3 : l1_3.length ≤ c1_3) (h : q26z.f k a0_0 a0_1 l0_2 l0_3 a1_0 a1_1 l1_2 l1_3 a1_4 a1_5 a1_6 a1_7 = some (r1, r2, r3, r4, r5, r6, r7, r8)) :
  Calls Try.prog 17 #[.agg #[.int .i64 a0_0, .int .u32 a0_1, .slice A0_2 l0_2.length c0_2, .slice A0_3 l0_3.length c0_3], .agg #[.int .u32 a1_0, .int .i64 a1_1, .slice A1_2 l1_2.length c1_2, .slice A1_3 l1_3.length c1_3, .int .u32 a1_4, .int .u32 a1_5, .int .i64 a1_6, .int .u32 a1_7]] w fun e w' => ∃ v2_ v3_ : Value, e = .returned (.agg #[.int .u32 r1, .int .i64 r2, v2_, v3_, .int .u32 r5, .int .u32 r6, .int .i64 r7, .int .u32 r8]) ∧ Kd.R (Kd.int .u32) 22 w' w.heap.size (fun k_ => some k_ ≠ (v3_ : Value).ownBlock) v2_ r3 ∧ Kd.R (Kd.int .u32) 22 w' w.heap.size (fun k_ => some k_ ≠ (v2_ : Value).ownBlock) v3_ r4 ∧ Below w.heap.size w w' := by
 have hu26 := Try.underlying26
 have hu30 := Try.underlying30
 have HR0_2 := Aside0.mk hr0_2
 have HC0_2 := Aside0.mk hc0_2
 clear hr0_2 hc0_2
 have HR0_3 := Aside0.mk hr0_3
 have HC0_3 := Aside0.mk hc0_3
 clear hr0_3 hc0_3
 have HR1_2 := Aside0.mk hr1_2
 have HC1_2 := Aside0.mk hc1_2
 clear hr1_2 hc1_2
 have HR1_3 := Aside0.mk hr1_3
 have HC1_3 := Aside0.mk hc1_3
 clear hr1_3 hc1_3
 have HB := Aside0.mk (Below.refl w.heap.size w)
 have H : ((q2z.f a1_0 a1_1 l1_2 l1_3 a1_4 a1_5 a1_6 a1_7).bind fun bt4 => ((q21z.f k a0_0 a0_1 l0_2 l0_3).bind fun t16 => (if t16 = true then (if a0_0 = 1 then (some (bt4.1, bt4.2.1, bt4.2.2.1, bt4.2.2.2.1, a0_1, bt4.2.2.2.2.2.1, bt4.2.2.2.2.2.2.1, bt4.2.2.2.2.2.2.2)) else (if a0_0 = 2 then (some (bt4.1, bt4.2.1, bt4.2.2.1, bt4.2.2.2.1, bt4.2.2.2.2.1, a0_1, bt4.2.2.2.2.2.2.1, bt4.2.2.2.2.2.2.2)) else (if a0_0 = 3 then (some (bt4.1, bt4.2.1, bt4.2.2.1, bt4.2.2.2.1, bt4.2.2.2.2.1, bt4.2.2.2.2.2.1, wrap64 (a0_1), bt4.2.2.2.2.2.2.2)) else (if a0_0 = 4 then (some (bt4.1, bt4.2.1, bt4.2.2.1, bt4.2.2.2.1, bt4.2.2.2.2.1, bt4.2.2.2.2.2.1, bt4.2.2.2.2.2.2.1, a0_1)) else (if a0_0 = 5 then ((some (([] : List Int) : List Int)).bind fun y17 => (if y17.length + l0_2.length < 35184372088832 then ((some (y17 ++ l0_2 : List Int)).bind fun y20 => (if y20.length + bt4.2.2.1.length < 35184372088832 then (some (bt4.1, bt4.2.1, (y20 ++ bt4.2.2.1), bt4.2.2.2.1, bt4.2.2.2.2.1, bt4.2.2.2.2.2.1, bt4.2.2.2.2.2.2.1, bt4.2.2.2.2.2.2.2)) else (none))) else (none))) else (if a0_0 = 6 then (if bt4.2.2.2.1.length + l0_2.length < 35184372088832 then ((q25z.f k (bt4.2.2.2.1 ++ l0_2)).bind fun t29 => (some (bt4.1, bt4.2.1, bt4.2.2.1, t29, bt4.2.2.2.2.1, bt4.2.2.2.2.2.1, bt4.2.2.2.2.2.2.1, bt4.2.2.2.2.2.2.2))) else (none)) else (if a0_0 = 7 then ((q25z.f k l0_2).bind fun t32 => (some (bt4.1, bt4.2.1, bt4.2.2.1, t32, bt4.2.2.2.2.1, bt4.2.2.2.2.2.1, bt4.2.2.2.2.2.2.1, bt4.2.2.2.2.2.2.2))) else (if a0_0 = 8 then (q26z.l0 k ([] : List Int) bt4.2.2.2.1 (bt4.2.2.2.1.length : Int) 0 a0_0 a0_1 l0_2 l0_3 bt4.1 bt4.2.1 bt4.2.2.1 bt4.2.2.2.1 bt4.2.2.2.2.1 bt4.2.2.2.2.2.1 bt4.2.2.2.2.2.2.1 bt4.2.2.2.2.2.2.2) else (some (bt4.1, bt4.2.1, bt4.2.2.1, bt4.2.2.2.1, bt4.2.2.2.2.1, bt4.2.2.2.2.2.1, bt4.2.2.2.2.2.2.1, bt4.2.2.2.2.2.2.2)))))))))) else (some (bt4.1, bt4.2.1, bt4.2.2.1, bt4.2.2.2.1, bt4.2.2.2.2.1, bt4.2.2.2.2.2.1, bt4.2.2.2.2.2.2.1, bt4.2.2.2.2.2.2.2))))) = some (r1, r2, r3, r4, r5, r6, r7, r8) := h
 clear h
 replace H := Option.bind_eq_some_iff.mp H
 obtain ⟨⟨t4, t5, t6, t9, t12, t13, t14, t15⟩, A30, H⟩ := H
 replace H : ((q21z.f k a0_0 a0_1 l0_2 l0_3).bind fun t16 => (if t16 = true then (if a0_0 = 1 then (some (t4, t5, t6, t9, a0_1, t13, t14, t15)) else (if a0_0 = 2 then (some (t4, t5, t6, t9, t12, a0_1, t14, t15)) else (if a0_0 = 3 then (some (t4, t5, t6, t9, t12, t13, wrap64 (a0_1), t15)) else (if a0_0 = 4 then (some (t4, t5, t6, t9, t12, t13, t14, a0_1)) else (if a0_0 = 5 then ((some (([] : List Int) : List Int)).bind fun y17 => (if y17.length + l0_2.length < 35184372088832 then ((some (y17 ++ l0_2 : List Int)).bind fun y20 => (if y20.length + t6.length < 35184372088832 then (some (t4, t5, (y20 ++ t6), t9, t12, t13, t14, t15)) else (none))) else (none))) else (if a0_0 = 6 then (if t9.length + l0_2.length < 35184372088832 then ((q25z.f k (t9 ++ l0_2)).bind fun t29 => (some (t4, t5, t6, t29, t12, t13, t14, t15))) else (none)) else (if a0_0 = 7 then ((q25z.f k l0_2).bind fun t32 => (some (t4, t5, t6, t32, t12, t13, t14, t15))) else (if a0_0 = 8 then (q26z.l0 k ([] : List Int) t9 (t9.length : Int) 0 a0_0 a0_1 l0_2 l0_3 t4 t5 t6 t9 t12 t13 t14 t15) else (some (t4, t5, t6, t9, t12, t13, t14, t15)))))))))) else (some (t4, t5, t6, t9, t12, t13, t14, t15)))) = some (r1, r2, r3, r4, r5, r6, r7, r8) := H
 have A3 := Aside0.mk A30
 clear A30
 replace H := Option.bind_eq_some_iff.mp H
 obtain ⟨t16, A40, H⟩ := H
 replace H : (if t16 = true then (if a0_0 = 1 then (some (t4, t5, t6, t9, a0_1, t13, t14, t15)) else (if a0_0 = 2 then (some (t4, t5, t6, t9, t12, a0_1, t14, t15)) else (if a0_0 = 3 then (some (t4, t5, t6, t9, t12, t13, wrap64 (a0_1), t15)) else (if a0_0 = 4 then (some (t4, t5, t6, t9, t12, t13, t14, a0_1)) else (if a0_0 = 5 then ((some (([] : List Int) : List Int)).bind fun y17 => (if y17.length + l0_2.length < 35184372088832 then ((some (y17 ++ l0_2 : List Int)).bind fun y20 => (if y20.length + t6.length < 35184372088832 then (some (t4, t5, (y20 ++ t6), t9, t12, t13, t14, t15)) else (none))) else (none))) else (if a0_0 = 6 then (if t9.length + l0_2.length < 35184372088832 then ((q25z.f k (t9 ++ l0_2)).bind fun t29 => (some (t4, t5, t6, t29, t12, t13, t14, t15))) else (none)) else (if a0_0 = 7 then ((q25z.f k l0_2).bind fun t32 => (some (t4, t5, t6, t32, t12, t13, t14, t15))) else (if a0_0 = 8 then (q26z.l0 k ([] : List Int) t9 (t9.length : Int) 0 a0_0 a0_1 l0_2 l0_3 t4 t5 t6 t9 t12 t13 t14 t15) else (some (t4, t5, t6, t9, t12, t13, t14, t15)))))))))) else (some (t4, t5, t6, t9, t12, t13, t14, t15))) = some (r1, r2, r3, r4, r5, r6, r7, r8) := H
 have A4 := Aside0.mk A40
 clear A40
 by_cases c5 : t16 = true
 ·
  subst c5
  have H1 : (if a0_0 = 1 then (some (t4, t5, t6, t9, a0_1, t13, t14, t15)) else (if a0_0 = 2 then (some (t4, t5, t6, t9, t12, a0_1, t14, t15)) else (if a0_0 = 3 then (some (t4, t5, t6, t9, t12, t13, wrap64 (a0_1), t15)) else (if a0_0 = 4 then (some (t4, t5, t6, t9, t12, t13, t14, a0_1)) else (if a0_0 = 5 then ((some (([] : List Int) : List Int)).bind fun y17 => (if y17.length + l0_2.length < 35184372088832 then ((some (y17 ++ l0_2 : List Int)).bind fun y20 => (if y20.length + t6.length < 35184372088832 then (some (t4, t5, (y20 ++ t6), t9, t12, t13, t14, t15)) else (none))) else (none))) else (if a0_0 = 6 then (if t9.length + l0_2.length < 35184372088832 then ((q25z.f k (t9 ++ l0_2)).bind fun t29 => (some (t4, t5, t6, t29, t12, t13, t14, t15))) else (none)) else (if a0_0 = 7 then ((q25z.f k l0_2).bind fun t32 => (some (t4, t5, t6, t32, t12, t13, t14, t15))) else (if a0_0 = 8 then (q26z.l0 k ([] : List Int) t9 (t9.length : Int) 0 a0_0 a0_1 l0_2 l0_3 t4 t5 t6 t9 t12 t13 t14 t15) else (some (t4, t5, t6, t9, t12, t13, t14, t15)))))))))) = some (r1, r2, r3, r4, r5, r6, r7, r8) := by rw [if_pos rfl] at H; exact H
  clear H
  have H := H1
  clear H1
  have HH_c6 := Aside0.mk H
  clear H
  go_enter Try.func17, Try.ntmps17
  go_upto_region 4 with (first | ((with_reducible refine gate_dst (N := 2) rfl ?_); refine box_event ?hg (N := 2) ?hd (cs := #[.int .i64 a0_0, .int .u32 a0_1, .slice A0_2 l0_2.length c0_2, .slice A0_3 l0_3.length c0_3]) (t := 26) ?hr ?_; (case hd => rfl); (case hg => rfl); (case hr => first | (go_simp; done) | (go_simp; rfl)); intro gb1 hg w7 hbox hb; have BK1 := Aside0.mk (hbox); have GW1 := Aside0.mk ((by rw [hg]; exact (below_size (hbW HB)) : w.heap.size ≤ gb1)); have GE1 := Aside0.mk ((by rw [hg]; exact (below_size (hbW HB)) : w.heap.size ≤ gb1)); replace HB := hbS HB hb; clear hb hbox hg) | ((with_reducible refine gate_dst (N := 3) rfl ?_); refine box_event ?hg (N := 3) ?hd (cs := #[.int .u32 a1_0, .int .i64 a1_1, .slice A1_2 l1_2.length c1_2, .slice A1_3 l1_3.length c1_3, .int .u32 a1_4, .int .u32 a1_5, .int .i64 a1_6, .int .u32 a1_7]) (t := 30) ?hr ?_; (case hd => rfl); (case hg => rfl); (case hr => first | (go_simp; done) | (go_simp; rfl)); intro gb2 hg w8 hbox hb; have BK2 := Aside0.mk (hbox); have GW2 := Aside0.mk ((by rw [hg]; exact (below_size (hbW HB)) : w.heap.size ≤ gb2)); have GE2 := Aside0.mk ((by rw [hg]; exact (below_size (hbW HB)) : w.heap.size ≤ gb2)); have NB1_2 := Aside0.mk ((by rw [hg]; exact Nat.ne_of_lt (blk_lt (bkW BK1)) : gb1 ≠ gb2)); have NB2_1 := Aside0.mk ((by rw [hg]; exact Nat.ne_of_gt (blk_lt (bkW BK1)) : gb2 ≠ gb1)); replace BK1 := bkB BK1 hb; replace HB := hbS HB hb; clear hb hbox hg) | ((with_reducible refine gate_dst (N := 4) rfl ?_); refine box_event ?hg (N := 4) ?hd (cs := #[.int .u32 0, .int .i64 0, .slice none 0 0, .slice none 0 0, .int .u32 0, .int .u32 0, .int .i64 0, .int .u32 0]) (t := 30) ?hr ?_; (case hd => rfl); (case hg => rfl); (case hr => first | (go_simp; done) | (go_simp; rfl)); intro gb3 hg w9 hbox hb; have BK3 := Aside0.mk (hbox); have GW3 := Aside0.mk ((by rw [hg]; exact (below_size (hbW HB)) : w.heap.size ≤ gb3)); have GE3 := Aside0.mk ((by rw [hg]; exact (below_size (hbW HB)) : w.heap.size ≤ gb3)); have NB1_3 := Aside0.mk ((by rw [hg]; exact Nat.ne_of_lt (blk_lt (bkW BK1)) : gb1 ≠ gb3)); have NB3_1 := Aside0.mk ((by rw [hg]; exact Nat.ne_of_gt (blk_lt (bkW BK1)) : gb3 ≠ gb1)); have NB2_3 := Aside0.mk ((by rw [hg]; exact Nat.ne_of_lt (blk_lt (bkW BK2)) : gb2 ≠ gb3)); have NB3_2 := Aside0.mk ((by rw [hg]; exact Nat.ne_of_gt (blk_lt (bkW BK2)) : gb3 ≠ gb2)); replace BK1 := bkB BK1 hb; replace BK2 := bkB BK2 hb; replace HB := hbS HB hb; clear hb hbox hg; have hnb106 := NB2_1.out; have hnc106 := NB1_2.out; have hnb107 := NB2_3.out; have hnc107 := NB3_2.out; obtain ⟨hcz108_0, hcz108_1, hcz108_2, hcz108_3, hcz108_4, hcz108_5, hcz108_6, hcz108_7, hfz108_0, hfz108_1, hfz108_2, hfz108_3, hfz108_4, hfz108_5, hfz108_6, hfz108_7⟩ := bc8 BK2) | ((with_reducible refine gate_callee (f := 12) rfl ?_); refine goesL_ (some 9) rfl rfl Try.func12 (by kernel_rfl) rfl #[.agg #[.int .u32 a1_0, .int .i64 a1_1, .slice A1_2 l1_2.length c1_2, .slice A1_3 l1_3.length c1_3, .int .u32 a1_4, .int .u32 a1_5, .int .i64 a1_6, .int .u32 a1_7]] rfl (by (try simp only [List.map_toArray, List.map_cons, List.map_nil]); first | done | rfl | (simp only [List.length_drop, List.length_take]; rfl)) ?_; (with_reducible refine (q2z.calls a1_0 a1_1 _ _ l1_2 _ _ l1_3 a1_4 a1_5 a1_6 a1_7 t4 t5 t6 t9 t12 t13 t14 t15 _ ?side1 ?side2 ?side3 ?side4 A3.out).mono ?_); (case side1 => repeat (first | exact (Kd.C_below HR1_2.out HB.out) | (with_reducible refine Kd.C_alloc ?_ _) | (with_reducible refine Kd.C_drewN ?_ _) | (with_reducible refine Kd.C_drew ?_))); (case side2 => exact HC1_2.out); (case side3 => repeat (first | exact (Kd.C_below HR1_3.out HB.out) | (with_reducible refine Kd.C_alloc ?_ _) | (with_reducible refine Kd.C_drewN ?_ _) | (with_reducible refine Kd.C_drew ?_))); (case side4 => exact HC1_3.out); rintro e w13 ⟨v7, v10, rfl, ho0, ho1, hb⟩; refine ⟨_, rfl, ?_⟩; have HO8 := Aside0.mk (Kd.R_lower ho0 (below_size (hbW HB))); have HO11 := Aside0.mk (Kd.R_lower ho1 (below_size (hbW HB))); replace BK1 := bkB BK1 hb; replace BK2 := bkB BK2 hb; replace BK3 := bkB BK3 hb; replace HB := hbS HB hb; (try clear hb); (try clear ho0); (try clear ho1); obtain ⟨hcz14_0, hcz14_1, hcz14_2, hcz14_3, hcz14_4, hcz14_5, hcz14_6, hcz14_7, hfz14_0, hfz14_1, hfz14_2, hfz14_3, hfz14_4, hfz14_5, hfz14_6, hfz14_7⟩ := bc8 BK2; obtain ⟨Ao15, co15, eo15⟩ := Kd.R_slice HO8.out; subst eo15; obtain ⟨Ao16, co16, eo16⟩ := Kd.R_slice HO11.out; subst eo16; have hnb113 := NB1_3.out; have hnc113 := NB3_1.out; obtain ⟨hcz114_0, hcz114_1, hcz114_2, hcz114_3, hfz114_0, hfz114_1, hfz114_2, hfz114_3⟩ := bc4 BK1) | ((with_reducible refine gate_callee (f := 15) rfl ?_); refine goesL_ (some 11) rfl rfl Try.func15 (by kernel_rfl) rfl #[.agg #[.int .i64 a0_0, .int .u32 a0_1, .slice A0_2 l0_2.length c0_2, .slice A0_3 l0_3.length c0_3]] rfl (by (try simp only [List.map_toArray, List.map_cons, List.map_nil]); first | done | rfl | (simp only [List.length_drop, List.length_take]; rfl)) ?_; (with_reducible refine (q21z.calls k a0_0 a0_1 _ _ l0_2 _ _ l0_3 _ _ ?side1 ?side2 ?side3 ?side4 A4.out).mono ?_); (case side1 => exact Kd.C_below HR0_2.out (hbW HB)); (case side2 => exact HC0_2.out); (case side3 => exact Kd.C_below HR0_3.out (hbW HB)); (case side4 => exact HC0_3.out); rintro e w19 ⟨rfl, hb⟩; refine ⟨_, rfl, ?_⟩; replace HO8 := Aside0.mk (Kd.R_below (rW HO8) hb); replace HO11 := Aside0.mk (Kd.R_below (rW HO11) hb); replace BK1 := bvB BK1 hb; replace BK2 := Aside0.mk (blk_below (g := gb2) (o := .cells #[.int .u32 t4, .int .i64 t5, .slice Ao15 t6.length co15, .slice Ao16 t9.length co16, .int .u32 t12, .int .u32 t13, .int .i64 t14, .int .u32 t15] 30 (0, 0)) (bp8 BK2) hb); replace BK3 := bvB BK3 hb; replace HB := hbS HB hb; (try clear hb); obtain ⟨hcz203_0, hcz203_1, hcz203_2, hcz203_3, hfz203_0, hfz203_1, hfz203_2, hfz203_3⟩ := bc4 BK1; obtain ⟨hcz204_0, hcz204_1, hcz204_2, hcz204_3, hcz204_4, hcz204_5, hcz204_6, hcz204_7, hfz204_0, hfz204_1, hfz204_2, hfz204_3, hfz204_4, hfz204_5, hfz204_6, hfz204_7⟩ := bc8 BK2; obtain ⟨hcz205_0, hcz205_1, hcz205_2, hcz205_3, hcz205_4, hcz205_5, hcz205_6, hcz205_7, hfz205_0, hfz205_1, hfz205_2, hfz205_3, hfz205_4, hfz205_5, hfz205_6, hfz205_7⟩ := bc8 BK3))
  have H := HH_c6.out
  clear HH_c6
  by_cases c6 : a0_0 = 1
  ·
   rw [if_pos c6] at H
   have c6b0 : (a0_0 == 1) = true := beq_iff_eq.mpr c6
   have c6b1 : (a0_0 != 1) = false := bne_eq_false_iff_eq.mpr c6
   clear c6
   simp only [Option.some.injEq, Prod.mk.injEq] at H
   obtain ⟨rfl, rfl, rfl, rfl, rfl, rfl, rfl, rfl⟩ := H
   go_wp2
   refine bodyPost_ret (results_cell_row rfl _ _ gb3 30 #[.int .u32 t4, .int .i64 t5, .slice Ao15 t6.length co15, .slice Ao16 t9.length co16, .int .u32 a0_1, .int .u32 t13, .int .i64 t14, .int .u32 t15] (0, 0) _ rfl (bp8 BK3) Try.underlying30 rfl (by kernel_rfl)) rfl ?_
   exact ⟨_, _, by first | rfl | (simp [errW_none, errW_some] <;> rfl) | (simp [*, errW_none, errW_some] <;> rfl), by (with_reducible repeat (first | apply Kd.R_alloc | apply Kd.R_drewN | apply Kd.R_drew)); exact Kd.R_mono (Kd.R_far (p := ⟨gb3, 7, none⟩) (Kd.R_far (p := ⟨gb3, 6, none⟩) (Kd.R_far (p := ⟨gb3, 5, none⟩) (Kd.R_far (p := ⟨gb3, 4, none⟩) (Kd.R_far (p := ⟨gb3, 3, none⟩) (Kd.R_far (p := ⟨gb3, 2, none⟩) (Kd.R_far (p := ⟨gb3, 1, none⟩) (Kd.R_far (p := ⟨gb3, 0, none⟩) (Kd.R_far (p := ⟨gb2, 4, none⟩) (Kd.R_types (Kd.R_types HO8.out BK2.out (by decide)) BK3.out (by decide)) (fun _ hk => hk.1.2) (.int .u32 a0_1)) (fun _ hk => hk.2) (.int .u32 t4)) (fun _ hk => hk.2) (.int .i64 t5)) (fun _ hk => hk.2) (.slice Ao15 t6.length co15)) (fun _ hk => hk.2) (.slice Ao16 t9.length co16)) (fun _ hk => hk.2) (.int .u32 a0_1)) (fun _ hk => hk.2) (.int .u32 t13)) (fun _ hk => hk.2) (.int .i64 t14)) (fun _ hk => hk.2) (.int .u32 t15)) (fun _ hk => hk.1.1), by (with_reducible repeat (first | apply Kd.R_alloc | apply Kd.R_drewN | apply Kd.R_drew)); exact Kd.R_mono (Kd.R_far (p := ⟨gb3, 7, none⟩) (Kd.R_far (p := ⟨gb3, 6, none⟩) (Kd.R_far (p := ⟨gb3, 5, none⟩) (Kd.R_far (p := ⟨gb3, 4, none⟩) (Kd.R_far (p := ⟨gb3, 3, none⟩) (Kd.R_far (p := ⟨gb3, 2, none⟩) (Kd.R_far (p := ⟨gb3, 1, none⟩) (Kd.R_far (p := ⟨gb3, 0, none⟩) (Kd.R_far (p := ⟨gb2, 4, none⟩) (Kd.R_types (Kd.R_types HO11.out BK2.out (by decide)) BK3.out (by decide)) (fun _ hk => hk.1.2) (.int .u32 a0_1)) (fun _ hk => hk.2) (.int .u32 t4)) (fun _ hk => hk.2) (.int .i64 t5)) (fun _ hk => hk.2) (.slice Ao15 t6.length co15)) (fun _ hk => hk.2) (.slice Ao16 t9.length co16)) (fun _ hk => hk.2) (.int .u32 a0_1)) (fun _ hk => hk.2) (.int .u32 t13)) (fun _ hk => hk.2) (.int .i64 t14)) (fun _ hk => hk.2) (.int .u32 t15)) (fun _ hk => hk.1.1), hbW HB⟩
  ·
   rw [if_neg c6] at H
   have c6b0 : (a0_0 == 1) = false := beq_eq_false_iff_ne.mpr c6
   have c6b1 : (a0_0 != 1) = true := bne_iff_ne.mpr c6
   by_cases c23 : a0_0 = 2
   ·
    rw [if_pos c23] at H
    have c23b0 : (a0_0 == 2) = true := beq_iff_eq.mpr c23
    have c23b1 : (a0_0 != 2) = false := bne_eq_false_iff_eq.mpr c23
    clear c23
    simp only [Option.some.injEq, Prod.mk.injEq] at H
    obtain ⟨rfl, rfl, rfl, rfl, rfl, rfl, rfl, rfl⟩ := H
    go_wp2
    refine bodyPost_ret (results_cell_row rfl _ _ gb3 30 #[.int .u32 t4, .int .i64 t5, .slice Ao15 t6.length co15, .slice Ao16 t9.length co16, .int .u32 t12, .int .u32 a0_1, .int .i64 t14, .int .u32 t15] (0, 0) _ rfl (bp8 BK3) Try.underlying30 rfl (by kernel_rfl)) rfl ?_
    exact ⟨_, _, by first | rfl | (simp [errW_none, errW_some] <;> rfl) | (simp [*, errW_none, errW_some] <;> rfl), by (with_reducible repeat (first | apply Kd.R_alloc | apply Kd.R_drewN | apply Kd.R_drew)); exact Kd.R_mono (Kd.R_far (p := ⟨gb3, 7, none⟩) (Kd.R_far (p := ⟨gb3, 6, none⟩) (Kd.R_far (p := ⟨gb3, 5, none⟩) (Kd.R_far (p := ⟨gb3, 4, none⟩) (Kd.R_far (p := ⟨gb3, 3, none⟩) (Kd.R_far (p := ⟨gb3, 2, none⟩) (Kd.R_far (p := ⟨gb3, 1, none⟩) (Kd.R_far (p := ⟨gb3, 0, none⟩) (Kd.R_far (p := ⟨gb2, 5, none⟩) (Kd.R_types (Kd.R_types HO8.out BK2.out (by decide)) BK3.out (by decide)) (fun _ hk => hk.1.2) (.int .u32 a0_1)) (fun _ hk => hk.2) (.int .u32 t4)) (fun _ hk => hk.2) (.int .i64 t5)) (fun _ hk => hk.2) (.slice Ao15 t6.length co15)) (fun _ hk => hk.2) (.slice Ao16 t9.length co16)) (fun _ hk => hk.2) (.int .u32 t12)) (fun _ hk => hk.2) (.int .u32 a0_1)) (fun _ hk => hk.2) (.int .i64 t14)) (fun _ hk => hk.2) (.int .u32 t15)) (fun _ hk => hk.1.1), by (with_reducible repeat (first | apply Kd.R_alloc | apply Kd.R_drewN | apply Kd.R_drew)); exact Kd.R_mono (Kd.R_far (p := ⟨gb3, 7, none⟩) (Kd.R_far (p := ⟨gb3, 6, none⟩) (Kd.R_far (p := ⟨gb3, 5, none⟩) (Kd.R_far (p := ⟨gb3, 4, none⟩) (Kd.R_far (p := ⟨gb3, 3, none⟩) (Kd.R_far (p := ⟨gb3, 2, none⟩) (Kd.R_far (p := ⟨gb3, 1, none⟩) (Kd.R_far (p := ⟨gb3, 0, none⟩) (Kd.R_far (p := ⟨gb2, 5, none⟩) (Kd.R_types (Kd.R_types HO11.out BK2.out (by decide)) BK3.out (by decide)) (fun _ hk => hk.1.2) (.int .u32 a0_1)) (fun _ hk => hk.2) (.int .u32 t4)) (fun _ hk => hk.2) (.int .i64 t5)) (fun _ hk => hk.2) (.slice Ao15 t6.length co15)) (fun _ hk => hk.2) (.slice Ao16 t9.length co16)) (fun _ hk => hk.2) (.int .u32 t12)) (fun _ hk => hk.2) (.int .u32 a0_1)) (fun _ hk => hk.2) (.int .i64 t14)) (fun _ hk => hk.2) (.int .u32 t15)) (fun _ hk => hk.1.1), hbW HB⟩
   ·
    rw [if_neg c23] at H
    have c23b0 : (a0_0 == 2) = false := beq_eq_false_iff_ne.mpr c23
    have c23b1 : (a0_0 != 2) = true := bne_iff_ne.mpr c23
    by_cases c40 : a0_0 = 3
    ·
     rw [if_pos c40] at H
     have c40b0 : (a0_0 == 3) = true := beq_iff_eq.mpr c40
     have c40b1 : (a0_0 != 3) = false := bne_eq_false_iff_eq.mpr c40
     clear c40
     simp only [Option.some.injEq, Prod.mk.injEq] at H
     obtain ⟨rfl, rfl, rfl, rfl, rfl, rfl, rfl, rfl⟩ := H
     go_wp2
     refine bodyPost_ret (results_cell_row rfl _ _ gb3 30 #[.int .u32 t4, .int .i64 t5, .slice Ao15 t6.length co15, .slice Ao16 t9.length co16, .int .u32 t12, .int .u32 t13, .int .i64 (wrap64 (a0_1)), .int .u32 t15] (0, 0) _ rfl (bp8 BK3) Try.underlying30 rfl (by kernel_rfl)) rfl ?_
     exact ⟨_, _, by first | rfl | (simp [errW_none, errW_some] <;> rfl) | (simp [*, errW_none, errW_some] <;> rfl), by (with_reducible repeat (first | apply Kd.R_alloc | apply Kd.R_drewN | apply Kd.R_drew)); exact Kd.R_mono (Kd.R_far (p := ⟨gb3, 7, none⟩) (Kd.R_far (p := ⟨gb3, 6, none⟩) (Kd.R_far (p := ⟨gb3, 5, none⟩) (Kd.R_far (p := ⟨gb3, 4, none⟩) (Kd.R_far (p := ⟨gb3, 3, none⟩) (Kd.R_far (p := ⟨gb3, 2, none⟩) (Kd.R_far (p := ⟨gb3, 1, none⟩) (Kd.R_far (p := ⟨gb3, 0, none⟩) (Kd.R_far (p := ⟨gb2, 6, none⟩) (Kd.R_types (Kd.R_types HO8.out BK2.out (by decide)) BK3.out (by decide)) (fun _ hk => hk.1.2) (.int .i64 (wrap64 (a0_1)))) (fun _ hk => hk.2) (.int .u32 t4)) (fun _ hk => hk.2) (.int .i64 t5)) (fun _ hk => hk.2) (.slice Ao15 t6.length co15)) (fun _ hk => hk.2) (.slice Ao16 t9.length co16)) (fun _ hk => hk.2) (.int .u32 t12)) (fun _ hk => hk.2) (.int .u32 t13)) (fun _ hk => hk.2) (.int .i64 (wrap64 (a0_1)))) (fun _ hk => hk.2) (.int .u32 t15)) (fun _ hk => hk.1.1), by (with_reducible repeat (first | apply Kd.R_alloc | apply Kd.R_drewN | apply Kd.R_drew)); exact Kd.R_mono (Kd.R_far (p := ⟨gb3, 7, none⟩) (Kd.R_far (p := ⟨gb3, 6, none⟩) (Kd.R_far (p := ⟨gb3, 5, none⟩) (Kd.R_far (p := ⟨gb3, 4, none⟩) (Kd.R_far (p := ⟨gb3, 3, none⟩) (Kd.R_far (p := ⟨gb3, 2, none⟩) (Kd.R_far (p := ⟨gb3, 1, none⟩) (Kd.R_far (p := ⟨gb3, 0, none⟩) (Kd.R_far (p := ⟨gb2, 6, none⟩) (Kd.R_types (Kd.R_types HO11.out BK2.out (by decide)) BK3.out (by decide)) (fun _ hk => hk.1.2) (.int .i64 (wrap64 (a0_1)))) (fun _ hk => hk.2) (.int .u32 t4)) (fun _ hk => hk.2) (.int .i64 t5)) (fun _ hk => hk.2) (.slice Ao15 t6.length co15)) (fun _ hk => hk.2) (.slice Ao16 t9.length co16)) (fun _ hk => hk.2) (.int .u32 t12)) (fun _ hk => hk.2) (.int .u32 t13)) (fun _ hk => hk.2) (.int .i64 (wrap64 (a0_1)))) (fun _ hk => hk.2) (.int .u32 t15)) (fun _ hk => hk.1.1), hbW HB⟩
    ·
     rw [if_neg c40] at H
     have c40b0 : (a0_0 == 3) = false := beq_eq_false_iff_ne.mpr c40
     have c40b1 : (a0_0 != 3) = true := bne_iff_ne.mpr c40
     by_cases c57 : a0_0 = 4
     ·
      rw [if_pos c57] at H
      have c57b0 : (a0_0 == 4) = true := beq_iff_eq.mpr c57
      have c57b1 : (a0_0 != 4) = false := bne_eq_false_iff_eq.mpr c57
      clear c57
      simp only [Option.some.injEq, Prod.mk.injEq] at H
      obtain ⟨rfl, rfl, rfl, rfl, rfl, rfl, rfl, rfl⟩ := H
      go_wp2
      refine bodyPost_ret (results_cell_row rfl _ _ gb3 30 #[.int .u32 t4, .int .i64 t5, .slice Ao15 t6.length co15, .slice Ao16 t9.length co16, .int .u32 t12, .int .u32 t13, .int .i64 t14, .int .u32 a0_1] (0, 0) _ rfl (bp8 BK3) Try.underlying30 rfl (by kernel_rfl)) rfl ?_
      exact ⟨_, _, by first | rfl | (simp [errW_none, errW_some] <;> rfl) | (simp [*, errW_none, errW_some] <;> rfl), by (with_reducible repeat (first | apply Kd.R_alloc | apply Kd.R_drewN | apply Kd.R_drew)); exact Kd.R_mono (Kd.R_far (p := ⟨gb3, 7, none⟩) (Kd.R_far (p := ⟨gb3, 6, none⟩) (Kd.R_far (p := ⟨gb3, 5, none⟩) (Kd.R_far (p := ⟨gb3, 4, none⟩) (Kd.R_far (p := ⟨gb3, 3, none⟩) (Kd.R_far (p := ⟨gb3, 2, none⟩) (Kd.R_far (p := ⟨gb3, 1, none⟩) (Kd.R_far (p := ⟨gb3, 0, none⟩) (Kd.R_far (p := ⟨gb2, 7, none⟩) (Kd.R_types (Kd.R_types HO8.out BK2.out (by decide)) BK3.out (by decide)) (fun _ hk => hk.1.2) (.int .u32 a0_1)) (fun _ hk => hk.2) (.int .u32 t4)) (fun _ hk => hk.2) (.int .i64 t5)) (fun _ hk => hk.2) (.slice Ao15 t6.length co15)) (fun _ hk => hk.2) (.slice Ao16 t9.length co16)) (fun _ hk => hk.2) (.int .u32 t12)) (fun _ hk => hk.2) (.int .u32 t13)) (fun _ hk => hk.2) (.int .i64 t14)) (fun _ hk => hk.2) (.int .u32 a0_1)) (fun _ hk => hk.1.1), by (with_reducible repeat (first | apply Kd.R_alloc | apply Kd.R_drewN | apply Kd.R_drew)); exact Kd.R_mono (Kd.R_far (p := ⟨gb3, 7, none⟩) (Kd.R_far (p := ⟨gb3, 6, none⟩) (Kd.R_far (p := ⟨gb3, 5, none⟩) (Kd.R_far (p := ⟨gb3, 4, none⟩) (Kd.R_far (p := ⟨gb3, 3, none⟩) (Kd.R_far (p := ⟨gb3, 2, none⟩) (Kd.R_far (p := ⟨gb3, 1, none⟩) (Kd.R_far (p := ⟨gb3, 0, none⟩) (Kd.R_far (p := ⟨gb2, 7, none⟩) (Kd.R_types (Kd.R_types HO11.out BK2.out (by decide)) BK3.out (by decide)) (fun _ hk => hk.1.2) (.int .u32 a0_1)) (fun _ hk => hk.2) (.int .u32 t4)) (fun _ hk => hk.2) (.int .i64 t5)) (fun _ hk => hk.2) (.slice Ao15 t6.length co15)) (fun _ hk => hk.2) (.slice Ao16 t9.length co16)) (fun _ hk => hk.2) (.int .u32 t12)) (fun _ hk => hk.2) (.int .u32 t13)) (fun _ hk => hk.2) (.int .i64 t14)) (fun _ hk => hk.2) (.int .u32 a0_1)) (fun _ hk => hk.1.1), hbW HB⟩
     ·
      rw [if_neg c57] at H
      have c57b0 : (a0_0 == 4) = false := beq_eq_false_iff_ne.mpr c57
      have c57b1 : (a0_0 != 4) = true := bne_iff_ne.mpr c57
      by_cases c74 : a0_0 = 5
      ·
       rw [if_pos c74] at H
       have c74b0 : (a0_0 == 5) = true := beq_iff_eq.mpr c74
       have c74b1 : (a0_0 != 5) = false := bne_eq_false_iff_eq.mpr c74
       clear c74
       obtain ⟨y17, hy17⟩ : ∃ y_ : List Int, y_ = (([] : List Int)) := ⟨_, rfl⟩
       replace H : (if y17.length + l0_2.length < 35184372088832 then ((some (y17 ++ l0_2 : List Int)).bind fun y20 => (if y20.length + t6.length < 35184372088832 then (some (t4, t5, (y20 ++ t6), t9, t12, t13, t14, t15)) else (none))) else (none)) = some (r1, r2, r3, r4, r5, r6, r7, r8) := by first | (rw [hy17]; with_reducible exact H) | (have H2_ := (Option.bind_some _ _).symm.trans H; rw [hy17]; with_reducible exact H2_) | (have H2_ := (Option.bind_some _ _).symm.trans H; with_reducible exact H2_) | with_reducible exact H | (rw [hy17]; exact H) | exact H
       have Ny17 := Aside0.mk hy17
       clear hy17
       by_cases c75 : y17.length + l0_2.length < 35184372088832
       ·
        rw [if_pos c75] at H
        have LMc75 := Aside0.mk c75
        clear c75
        obtain ⟨y20, hy20⟩ : ∃ y_ : List Int, y_ = (y17 ++ l0_2) := ⟨_, rfl⟩
        replace H : (if y20.length + t6.length < 35184372088832 then (some (t4, t5, (y20 ++ t6), t9, t12, t13, t14, t15)) else (none)) = some (r1, r2, r3, r4, r5, r6, r7, r8) := by first | (rw [hy20]; with_reducible exact H) | (have H2_ := (Option.bind_some _ _).symm.trans H; rw [hy20]; with_reducible exact H2_) | (have H2_ := (Option.bind_some _ _).symm.trans H; with_reducible exact H2_) | with_reducible exact H | (rw [hy20]; exact H) | exact H
        have Ny20 := Aside0.mk hy20
        clear hy20
        by_cases c76 : y20.length + t6.length < 35184372088832
        ·
         rw [if_pos c76] at H
         have LMc76 := Aside0.mk c76
         clear c76
         obtain ⟨y23, hy23⟩ : ∃ y_ : List Int, y_ = (y20 ++ t6) := ⟨_, rfl⟩
         replace H : (some (t4, t5, y23, t9, t12, t13, t14, t15)) = some (r1, r2, r3, r4, r5, r6, r7, r8) := by first | (rw [hy23]; with_reducible exact H) | (have H2_ := (Option.bind_some _ _).symm.trans H; rw [hy23]; with_reducible exact H2_) | (have H2_ := (Option.bind_some _ _).symm.trans H; with_reducible exact H2_) | with_reducible exact H | (rw [hy23]; exact H) | exact H
         have Ny23 := Aside0.mk hy23
         clear hy23
         simp only [Option.some.injEq, Prod.mk.injEq] at H
         obtain ⟨rfl, rfl, rfl, rfl, rfl, rfl, rfl, rfl⟩ := H
         try go_wp2
         replace HO8 := Aside0.mk (Kd.R_drew HO8.out)
         replace HO11 := Aside0.mk (Kd.R_drew HO11.out)
         replace BK1 := Aside0.mk (blk_drew BK1.out)
         replace BK2 := Aside0.mk (blk_drew BK2.out)
         replace BK3 := Aside0.mk (blk_drew BK3.out)
         replace HB := Aside0.mk (below_drew1 HB.out)
         refine start_ (n := 9) (S := fun w' => w'.cell? ⟨gb1, 0, none⟩ = some (.int .i64 a0_0) ∧ w'.cell? ⟨gb1, 1, none⟩ = some (.int .u32 a0_1) ∧ w'.cell? ⟨gb1, 2, none⟩ = some (.slice A0_2 l0_2.length c0_2) ∧ w'.cell? ⟨gb1, 3, none⟩ = some (.slice A0_3 l0_3.length c0_3) ∧ w'.cell? ⟨gb2, 0, none⟩ = some (.int .u32 t4) ∧ w'.cell? ⟨gb2, 1, none⟩ = some (.int .i64 t5) ∧ w'.cell? ⟨gb2, 2, none⟩ = some (.slice Ao15 t6.length co15) ∧ w'.cell? ⟨gb2, 3, none⟩ = some (.slice Ao16 t9.length co16) ∧ w'.cell? ⟨gb2, 4, none⟩ = some (.int .u32 t12) ∧ w'.cell? ⟨gb2, 5, none⟩ = some (.int .u32 t13) ∧ w'.cell? ⟨gb2, 6, none⟩ = some (.int .i64 t14) ∧ w'.cell? ⟨gb2, 7, none⟩ = some (.int .u32 t15)) (ds := [8]) #[false, false, false, false, false, false, false, false, false] (by kernel_rfl) rfl rfl ⟨(blk_cell BK1.out 0).trans rfl, (blk_cell BK1.out 1).trans rfl, (blk_cell BK1.out 2).trans rfl, (blk_cell BK1.out 3).trans rfl, (blk_cell BK2.out 0).trans rfl, (blk_cell BK2.out 1).trans rfl, (blk_cell BK2.out 2).trans rfl, (blk_cell BK2.out 3).trans rfl, (blk_cell BK2.out 4).trans rfl, (blk_cell BK2.out 5).trans rfl, (blk_cell BK2.out 6).trans rfl, (blk_cell BK2.out 7).trans rfl⟩ (fun hHeld => ?_); refine with_tabW q26z.tab14 q26z.bits14 (fun HT_ HW_ => ?_)
         generalize w19.drew = w91 at HO8 HO11 BK1 BK2 BK3 HB hHeld ⊢
         refine pure_ (i := 1) (N := some 40) (v := ?_) (a' := ?_) #[false, true, false, false, false, false, false, false, false] rfl rfl (any_of HT_.out (by kernel_rfl)) (fun _ _ _ h => h) (Or.inl ⟨by rfl, ?_⟩) ?_ ?_
         rotate_left
         ·
          intro w'
          go_simp
          with_reducible rfl
         rotate_left
         ·
          simp only [Act.put, List.setIfInBounds_toArray, List.set_cons_zero, List.set_cons_succ, i64_w, i32_w, IntKind.wrap_u32]
          rfl
         refine pure_ (i := 4) (N := some 43) (v := ?_) (a' := ?_) #[false, true, false, false, true, false, false, false, false] rfl rfl (any_of HT_.out (by kernel_rfl)) (fun _ _ _ h => h) (Or.inl ⟨by rfl, ?_⟩) ?_ ?_
         rotate_left
         ·
          intro w'
          go_simp
          with_reducible rfl
         rotate_left
         ·
          simp only [Act.put, List.setIfInBounds_toArray, List.set_cons_zero, List.set_cons_succ, i64_w, i32_w, IntKind.wrap_u32]
          rfl
         refine take_ (i := 2) (N := some 41) (v := ?_) (a' := ?_) #[false, true, true, false, true, false, false, false, false] rfl rfl (take_ofW HT_.out HW_.out (by kernel_rfl)) (fun _ _ _ h => h) (Or.inl ⟨by rfl, ?_⟩) hHeld ?_ ?_
         rotate_left
         ·
          rintro w' ⟨s0, s1, s2, s3, s4, s5, s6, s7, s8, s9, s10, s11⟩
          go_simp
          with_reducible rfl
         rotate_left
         ·
          simp only [Act.put, List.setIfInBounds_toArray, List.set_cons_zero, List.set_cons_succ, i64_w, i32_w, IntKind.wrap_u32]
          rfl
         refine take_ (i := 5) (N := some 44) (v := ?_) (a' := ?_) #[false, true, true, false, true, true, false, false, false] rfl rfl (take_ofW HT_.out HW_.out (by kernel_rfl)) (fun _ _ _ h => h) (Or.inl ⟨by rfl, ?_⟩) hHeld ?_ ?_
         rotate_left
         ·
          rintro w' ⟨s0, s1, s2, s3, s4, s5, s6, s7, s8, s9, s10, s11⟩
          go_simp
          with_reducible rfl
         rotate_left
         ·
          simp only [Act.put, List.setIfInBounds_toArray, List.set_cons_zero, List.set_cons_succ, i64_w, i32_w, IntKind.wrap_u32]
          rfl
         refine one_ (i := 0) (N := some 39) #[true, true, true, false, true, true, false, false, false] rfl rfl (one_of HT_.out (by kernel_rfl)) (by decide) (fun K hK => ?_)
         refine Kd.R_lit_step (Kd.int .u32) _ 22 ?hg (N := 39) ?hd (xs := ([] : List Int)) (inner := []) (ok := fun _ => True) (okp := fun _ => True) ?hr ?hp (fun _ hk => hk) trivial (Below.refl _ _) (Nat.le_refl _) (by simp) ?_; (case hd => rfl); (case hg => rfl); (case hr => first | (go_simp; done) | (go_simp; rfl)); (case hp => exact (Reps.none _ _))
         intro v18 w92 ho93 hb hg_ hnew_
         clear hg_ hnew_
         (first | rw [← Ny17.out] at ho93 | (simp only [Int.reduceToNat] at ho93; rw [← Ny17.out] at ho93))
         have n0_ := Aside0.mk (Kd.R_elder' (rW HO8) (Kd.R_base ho93) hb)
         have n1_ := Aside0.mk (Kd.R_elder' (rW HO11) (Kd.R_base ho93) hb)
         have n2_ := Aside0.mk (Kd.R_lower (Kd.R_new' (Kd.R_new' ho93 (Kd.R_lt (rW HO8))) (Kd.R_lt (rW HO11))) (below_size (hbW HB)))
         have n3_ := bkB BK1 hb
         have n4_ := bkB BK2 hb
         have n5_ := bkB BK3 hb
         have n6_ := hbS HB hb
         clear HO8 HO11 BK1 BK2 BK3 HB
         have HO8 := n0_
         have HO11 := n1_
         have HO19 := n2_
         have BK1 := n3_
         have BK2 := n4_
         have BK3 := n5_
         have HB := n6_
         clear n0_ n1_ n2_ n3_ n4_ n5_ n6_ hb ho93
         refine hK.out _ _ ⟨(blk_cell BK1.out 0).trans rfl, (blk_cell BK1.out 1).trans rfl, (blk_cell BK1.out 2).trans rfl, (blk_cell BK1.out 3).trans rfl, (blk_cell BK2.out 0).trans rfl, (blk_cell BK2.out 1).trans rfl, (blk_cell BK2.out 2).trans rfl, (blk_cell BK2.out 3).trans rfl, (blk_cell BK2.out 4).trans rfl, (blk_cell BK2.out 5).trans rfl, (blk_cell BK2.out 6).trans rfl, (blk_cell BK2.out 7).trans rfl⟩ (fun hHeld => ?_)
         clear hK K
         refine norm_ (a' := ?_) ?_ ?_
         rotate_left
         ·
          show Act.put _ (some 39) _ = _
          simp only [Act.put, List.setIfInBounds_toArray, List.set_cons_zero, List.set_cons_succ, i64_w, i32_w, IntKind.wrap_u32]
          rfl
         refine one_ (i := 3) (N := some 42) #[true, true, true, true, true, true, false, false, false] rfl rfl (one_of HT_.out (by kernel_rfl)) (by decide) (fun K hK => ?_)
         refine Kd.R_append_rows_step (Kd.int .u32) (w0 := w) w.heap.size (by rfl) (.tmp 39) (.tmp 41) 23 22 (.int .u32 0) 4 rfl Try.underlying23 info22 rfl (by decide) (by omega) v18 y17 l0_2 _ _ _ (fun k_ => some k_ ≠ (.slice Ao15 t6.length co15 : Value).ownBlock ∧ some k_ ≠ (.slice Ao16 t9.length co16 : Value).ownBlock) (fun _ => False) rfl rfl ?aO ?aR (fun _ _ h => h) (fun _ h => h.elim) ?aF ?aB ?aS ?aL ?_
         (case aR => repeat (first | exact (Kd.C_below HR0_2.out HB.out) | (with_reducible refine Kd.C_alloc ?_ _) | (with_reducible refine Kd.C_drewN ?_ _) | (with_reducible refine Kd.C_drew ?_)))
         (case aB => exact (hbW HB))
         (case aF => exact (fun k_ hk => ⟨Kd.fresh' (Kd.R_lt (rW HO8)) k_ hk, Kd.fresh' (Kd.R_lt (rW HO11)) k_ hk⟩))
         (case aO => exact (by (with_reducible repeat (first | apply Kd.R_alloc | apply Kd.R_drewN | apply Kd.R_drew)); exact Kd.R_mono HO19.out (fun _ hk => ⟨hk.1.2, hk.2⟩)))
         (case aS => exact (below_size (hbW HB)))
         (case aL => have := LMc75.out; omega)
         intro v21 w94 ho hb hg hat
         rw [← Ny20.out] at ho
         have n0_ := Aside0.mk (blk_grown (g := gb1) (o := .cells #[.int .i64 a0_0, .int .u32 a0_1, .slice A0_2 l0_2.length c0_2, .slice A0_3 l0_3.length c0_3] 26 (0, 0)) (bkW BK1) hg (Kd.R_ne HO19.out BK1.out (by decide)))
         have n1_ := Aside0.mk (blk_grown (g := gb2) (o := .cells #[.int .u32 t4, .int .i64 t5, .slice Ao15 t6.length co15, .slice Ao16 t9.length co16, .int .u32 t12, .int .u32 t13, .int .i64 t14, .int .u32 t15] 30 (0, 0)) (bkW BK2) hg (Kd.R_ne HO19.out BK2.out (by decide)))
         have n2_ := Aside0.mk (blk_grown (g := gb3) (o := .cells #[.int .u32 0, .int .i64 0, .slice none 0 0, .slice none 0 0, .int .u32 0, .int .u32 0, .int .i64 0, .int .u32 0] 30 (0, 0)) (bkW BK3) hg (Kd.R_ne HO19.out BK3.out (by decide)))
         have n3_ := Aside0.mk (Kd.R_after (ok := (fun k_ => some k_ ≠ (.slice Ao16 t9.length co16 : Value).ownBlock)) (rW HO8) hg hat)
         have n4_ := Aside0.mk (Kd.R_after (ok := (fun k_ => some k_ ≠ (.slice Ao15 t6.length co15 : Value).ownBlock)) (rW HO11) hg hat)
         have n5_ := Aside0.mk (hb)
         have n6_ := Aside0.mk (ho)
         clear BK1 BK2 BK3 HO8 HO11 HB HO19
         have BK1 := n0_
         have BK2 := n1_
         have BK3 := n2_
         have HO8 := n3_
         have HO11 := n4_
         have HB := n5_
         have HO22 := n6_
         clear n0_ n1_ n2_ n3_ n4_ n5_ n6_ ho hb hg hat
         refine hK.out _ _ ⟨(blk_cell BK1.out 0).trans rfl, (blk_cell BK1.out 1).trans rfl, (blk_cell BK1.out 2).trans rfl, (blk_cell BK1.out 3).trans rfl, (blk_cell BK2.out 0).trans rfl, (blk_cell BK2.out 1).trans rfl, (blk_cell BK2.out 2).trans rfl, (blk_cell BK2.out 3).trans rfl, (blk_cell BK2.out 4).trans rfl, (blk_cell BK2.out 5).trans rfl, (blk_cell BK2.out 6).trans rfl, (blk_cell BK2.out 7).trans rfl⟩ (fun hHeld => ?_)
         clear hK K
         refine norm_ (a' := ?_) ?_ ?_
         rotate_left
         ·
          show Act.put _ (some 42) _ = _
          simp only [Act.put, List.setIfInBounds_toArray, List.set_cons_zero, List.set_cons_succ, i64_w, i32_w, IntKind.wrap_u32]
          rfl
         refine one_ (i := 6) (N := some 45) #[true, true, true, true, true, true, true, false, false] rfl rfl (one_of HT_.out (by kernel_rfl)) (by decide) (fun K hK => ?_)
         refine Kd.R_append_rows_step (Kd.int .u32) (w0 := w) w.heap.size (by rfl) (.tmp 42) (.tmp 44) 23 22 (.int .u32 0) 4 rfl Try.underlying23 info22 rfl (by decide) (by omega) v21 y20 t6 _ _ _ (fun k_ => some k_ ≠ (.slice Ao15 t6.length co15 : Value).ownBlock ∧ some k_ ≠ (.slice Ao16 t9.length co16 : Value).ownBlock) (fun _ => False) rfl rfl ?aO ?aR (fun _ _ h => h) (fun _ h => h.elim) ?aF ?aB ?aS ?aL ?_
         (case aR => repeat (first | exact (Kd.R_reads' HO8.out).2.2 | (with_reducible refine Kd.C_alloc ?_ _) | (with_reducible refine Kd.C_drewN ?_ _) | (with_reducible refine Kd.C_drew ?_)))
         (case aB => exact (hbW HB))
         (case aF => exact (fun k_ hk => ⟨Kd.fresh' (Kd.R_lt (rW HO8)) k_ hk, Kd.fresh' (Kd.R_lt (rW HO11)) k_ hk⟩))
         (case aO => exact (rW HO22))
         (case aS => exact (below_size (hbW HB)))
         (case aL => have := LMc76.out; omega)
         intro v24 w95 ho hb hg hat
         rw [← Ny23.out] at ho
         have n0_ := Aside0.mk (blk_grown (g := gb1) (o := .cells #[.int .i64 a0_0, .int .u32 a0_1, .slice A0_2 l0_2.length c0_2, .slice A0_3 l0_3.length c0_3] 26 (0, 0)) (bkW BK1) hg (Kd.R_ne HO22.out BK1.out (by decide)))
         have n1_ := Aside0.mk (blk_grown (g := gb2) (o := .cells #[.int .u32 t4, .int .i64 t5, .slice Ao15 t6.length co15, .slice Ao16 t9.length co16, .int .u32 t12, .int .u32 t13, .int .i64 t14, .int .u32 t15] 30 (0, 0)) (bkW BK2) hg (Kd.R_ne HO22.out BK2.out (by decide)))
         have n2_ := Aside0.mk (blk_grown (g := gb3) (o := .cells #[.int .u32 0, .int .i64 0, .slice none 0 0, .slice none 0 0, .int .u32 0, .int .u32 0, .int .i64 0, .int .u32 0] 30 (0, 0)) (bkW BK3) hg (Kd.R_ne HO22.out BK3.out (by decide)))
         have n3_ := Aside0.mk (Kd.R_after (ok := (fun k_ => some k_ ≠ (.slice Ao16 t9.length co16 : Value).ownBlock)) (rW HO8) hg hat)
         have n4_ := Aside0.mk (Kd.R_after (ok := (fun k_ => some k_ ≠ (.slice Ao15 t6.length co15 : Value).ownBlock)) (rW HO11) hg hat)
         have n5_ := Aside0.mk (hb)
         have n6_ := Aside0.mk (ho)
         clear BK1 BK2 BK3 HO8 HO11 HB HO22
         have BK1 := n0_
         have BK2 := n1_
         have BK3 := n2_
         have HO8 := n3_
         have HO11 := n4_
         have HB := n5_
         have HO25 := n6_
         clear n0_ n1_ n2_ n3_ n4_ n5_ n6_ ho hb hg hat
         obtain ⟨Ao96, co96, eo96⟩ := Kd.R_slice HO25.out
         (first | subst eo96 | (injection eo96 with f1_ f2_ f3_; have f4_ := f1_.symm; have f5_ := f3_.symm; clear f1_ f2_ f3_; subst f4_; subst f5_))
         refine hK.out _ _ ⟨(blk_cell BK1.out 0).trans rfl, (blk_cell BK1.out 1).trans rfl, (blk_cell BK1.out 2).trans rfl, (blk_cell BK1.out 3).trans rfl, (blk_cell BK2.out 0).trans rfl, (blk_cell BK2.out 1).trans rfl, (blk_cell BK2.out 2).trans rfl, (blk_cell BK2.out 3).trans rfl, (blk_cell BK2.out 4).trans rfl, (blk_cell BK2.out 5).trans rfl, (blk_cell BK2.out 6).trans rfl, (blk_cell BK2.out 7).trans rfl⟩ (fun hHeld => ?_)
         clear hK K
         refine norm_ (a' := ?_) ?_ ?_
         rotate_left
         ·
          show Act.put _ (some 45) _ = _
          simp only [Act.put, List.setIfInBounds_toArray, List.set_cons_zero, List.set_cons_succ, i64_w, i32_w, IntKind.wrap_u32]
          rfl
         refine pure_ (i := 7) (N := some 46) (v := ?_) (a' := ?_) #[true, true, true, true, true, true, true, true, false] rfl rfl (any_of HT_.out (by kernel_rfl)) (fun _ _ _ h => h) (Or.inl ⟨by rfl, ?_⟩) ?_ ?_
         rotate_left
         ·
          intro w'
          go_simp
          with_reducible rfl
         rotate_left
         ·
          simp only [Act.put, List.setIfInBounds_toArray, List.set_cons_zero, List.set_cons_succ, i64_w, i32_w, IntKind.wrap_u32]
          rfl
         refine last_ (i := 8) (N := none) #[true, true, true, true, true, true, true, true, true] rfl rfl (one_of HT_.out (by kernel_rfl)) (by decide) (fun K hK => ?_)
         have hs97 : w95.cell? ⟨gb2, 2, none⟩ = some (.slice Ao15 t6.length co15) := (blk_cell BK2.out 2).trans rfl
         have hfs97 := blk_frozen BK2.out 2
         have hns97_0 := NB1_2.out
         have hns97_2 := NB3_2.out
         have hms97_0 := NB2_1.out
         have hms97_2 := NB2_3.out
         refine skip_ (w1 := ?_) (by rfl) rfl ?_ ?_
         rotate_left
         ·
          go_simp
          rfl
         refine hK.out _ _ ?_
         clear hK K
         refine done_ (done_of HT_.out (by kernel_rfl)) ?_
         obtain ⟨hcz98_0, hcz98_1, hcz98_2, hcz98_3, hcz98_4, hcz98_5, hcz98_6, hcz98_7, hfz98_0, hfz98_1, hfz98_2, hfz98_3, hfz98_4, hfz98_5, hfz98_6, hfz98_7⟩ := bc8 BK2
         obtain ⟨hcz99_0, hcz99_1, hcz99_2, hcz99_3, hcz99_4, hcz99_5, hcz99_6, hcz99_7, hfz99_0, hfz99_1, hfz99_2, hfz99_3, hfz99_4, hfz99_5, hfz99_6, hfz99_7⟩ := bc8 BK3
         try go_wp2
         refine bodyPost_ret (results_cell_row rfl _ _ gb3 30 #[.int .u32 t4, .int .i64 t5, .slice Ao96 y23.length co96, .slice Ao16 t9.length co16, .int .u32 t12, .int .u32 t13, .int .i64 t14, .int .u32 t15] (0, 0) _ rfl (bp8 BK3) Try.underlying30 rfl (by kernel_rfl)) rfl ?_
         exact ⟨_, _, by first | rfl | (simp [errW_none, errW_some] <;> rfl) | (simp [*, errW_none, errW_some] <;> rfl), by (with_reducible repeat (first | apply Kd.R_alloc | apply Kd.R_drewN | apply Kd.R_drew)); exact Kd.R_mono (Kd.R_far (p := ⟨gb3, 7, none⟩) (Kd.R_far (p := ⟨gb3, 6, none⟩) (Kd.R_far (p := ⟨gb3, 5, none⟩) (Kd.R_far (p := ⟨gb3, 4, none⟩) (Kd.R_far (p := ⟨gb3, 3, none⟩) (Kd.R_far (p := ⟨gb3, 2, none⟩) (Kd.R_far (p := ⟨gb3, 1, none⟩) (Kd.R_far (p := ⟨gb3, 0, none⟩) (Kd.R_far (p := ⟨gb2, 2, none⟩) (Kd.R_types (Kd.R_types HO25.out BK2.out (by decide)) BK3.out (by decide)) (fun _ hk => hk.1.2) (.slice Ao96 y23.length co96)) (fun _ hk => hk.2) (.int .u32 t4)) (fun _ hk => hk.2) (.int .i64 t5)) (fun _ hk => hk.2) (.slice Ao96 y23.length co96)) (fun _ hk => hk.2) (.slice Ao16 t9.length co16)) (fun _ hk => hk.2) (.int .u32 t12)) (fun _ hk => hk.2) (.int .u32 t13)) (fun _ hk => hk.2) (.int .i64 t14)) (fun _ hk => hk.2) (.int .u32 t15)) (fun _ hk => hk.1.1.2), by (with_reducible repeat (first | apply Kd.R_alloc | apply Kd.R_drewN | apply Kd.R_drew)); exact Kd.R_mono (Kd.R_far (p := ⟨gb3, 7, none⟩) (Kd.R_far (p := ⟨gb3, 6, none⟩) (Kd.R_far (p := ⟨gb3, 5, none⟩) (Kd.R_far (p := ⟨gb3, 4, none⟩) (Kd.R_far (p := ⟨gb3, 3, none⟩) (Kd.R_far (p := ⟨gb3, 2, none⟩) (Kd.R_far (p := ⟨gb3, 1, none⟩) (Kd.R_far (p := ⟨gb3, 0, none⟩) (Kd.R_far (p := ⟨gb2, 2, none⟩) (Kd.R_types (Kd.R_types HO11.out BK2.out (by decide)) BK3.out (by decide)) (fun _ hk => hk.1.2) (.slice Ao96 y23.length co96)) (fun _ hk => hk.2) (.int .u32 t4)) (fun _ hk => hk.2) (.int .i64 t5)) (fun _ hk => hk.2) (.slice Ao96 y23.length co96)) (fun _ hk => hk.2) (.slice Ao16 t9.length co16)) (fun _ hk => hk.2) (.int .u32 t12)) (fun _ hk => hk.2) (.int .u32 t13)) (fun _ hk => hk.2) (.int .i64 t14)) (fun _ hk => hk.2) (.int .u32 t15)) (fun _ hk => hk.1.1.2), hbW HB⟩
        ·
         rw [if_neg c76] at H
         exact absurd H (by simp)
       ·
        rw [if_neg c75] at H
        exact absurd H (by simp)
      ·
       rw [if_neg c74] at H
       have c74b0 : (a0_0 == 5) = false := beq_eq_false_iff_ne.mpr c74
       have c74b1 : (a0_0 != 5) = true := bne_iff_ne.mpr c74
       by_cases c100 : a0_0 = 6
       ·
        rw [if_pos c100] at H
        have c100b0 : (a0_0 == 6) = true := beq_iff_eq.mpr c100
        have c100b1 : (a0_0 != 6) = false := bne_eq_false_iff_eq.mpr c100
        clear c100
        by_cases c101 : t9.length + l0_2.length < 35184372088832
        ·
         rw [if_pos c101] at H
         have LMc101 := Aside0.mk c101
         clear c101
         obtain ⟨y26, hy26⟩ : ∃ y_ : List Int, y_ = (t9 ++ l0_2) := ⟨_, rfl⟩
         replace H : ((q25z.f k y26).bind fun t29 => (some (t4, t5, t6, t29, t12, t13, t14, t15))) = some (r1, r2, r3, r4, r5, r6, r7, r8) := by first | (rw [hy26]; with_reducible exact H) | (have H2_ := (Option.bind_some _ _).symm.trans H; rw [hy26]; with_reducible exact H2_) | (have H2_ := (Option.bind_some _ _).symm.trans H; with_reducible exact H2_) | with_reducible exact H | (rw [hy26]; exact H) | exact H
         have Ny26 := Aside0.mk hy26
         clear hy26
         replace H := Option.bind_eq_some_iff.mp H
         obtain ⟨t29, A1020, H⟩ := H
         replace H : (some (t4, t5, t6, t29, t12, t13, t14, t15)) = some (r1, r2, r3, r4, r5, r6, r7, r8) := H
         have A102 := Aside0.mk A1020
         clear A1020
         simp only [Option.some.injEq, Prod.mk.injEq] at H
         obtain ⟨rfl, rfl, rfl, rfl, rfl, rfl, rfl, rfl⟩ := H
         go_wp2_with (first | ((with_reducible refine gate_builtin (b := .append) (xs := #[.tmp 50, .tmp 52]) rfl ?_); at_builtin; refine Kd.R_append_rows (Kd.int .u32) (w0 := w) w.heap.size rfl (.tmp 50) (.tmp 52) 23 22 (.int .u32 0) 4 rfl Try.underlying23 info22 rfl (by decide) (by omega) (.slice Ao16 t9.length co16) t9 l0_2 _ _ _ (fun k_ => some k_ ≠ (.slice Ao15 t6.length co15 : Value).ownBlock) (fun _ => False) rfl rfl ?aO ?aR (fun _ _ h => h) (fun _ h => h.elim) ?aF ?aB ?aS ?aL ?_; (case aR => repeat (first | exact (Kd.C_below HR0_2.out HB.out) | (with_reducible refine Kd.C_alloc ?_ _) | (with_reducible refine Kd.C_drewN ?_ _) | (with_reducible refine Kd.C_drew ?_))); (case aB => exact (hbW HB)); (case aF => exact (fun k_ hk => Kd.fresh' (Kd.R_lt (rW HO8)) k_ hk)); (case aO => exact (rW HO11)); (case aS => exact (below_size (hbW HB))); (case aL => have := LMc101.out; omega); intro v27 w118 ho hb hg hat; rw [← Ny26.out] at ho; have n0_ := Aside0.mk (blk_grown (g := gb1) (o := .cells #[.int .i64 a0_0, .int .u32 a0_1, .slice A0_2 l0_2.length c0_2, .slice A0_3 l0_3.length c0_3] 26 (0, 0)) (bkW BK1) hg (Kd.R_ne HO11.out BK1.out (by decide))); have n1_ := Aside0.mk (blk_grown (g := gb2) (o := .cells #[.int .u32 t4, .int .i64 t5, .slice Ao15 t6.length co15, .slice Ao16 t9.length co16, .int .u32 t12, .int .u32 t13, .int .i64 t14, .int .u32 t15] 30 (0, 0)) (bkW BK2) hg (Kd.R_ne HO11.out BK2.out (by decide))); have n2_ := Aside0.mk (blk_grown (g := gb3) (o := .cells #[.int .u32 0, .int .i64 0, .slice none 0 0, .slice none 0 0, .int .u32 0, .int .u32 0, .int .i64 0, .int .u32 0] 30 (0, 0)) (bkW BK3) hg (Kd.R_ne HO11.out BK3.out (by decide))); have n3_ := Aside0.mk (Kd.R_after (ok := (fun _ => True)) (by (with_reducible repeat (first | apply Kd.R_alloc | apply Kd.R_drewN | apply Kd.R_drew)); exact Kd.R_mono HO8.out (fun _ hk => ⟨trivial, hk⟩)) hg hat); have n4_ := Aside0.mk (hb); have n5_ := Aside0.mk (ho); clear BK1; clear BK2; clear BK3; clear HO8; clear HB; clear HO11; have BK1 := n0_; have BK2 := n1_; have BK3 := n2_; have HO8 := n3_; have HB := n4_; have HO28 := n5_; clear n0_ n1_ n2_ n3_ n4_ n5_; clear ho hb hg hat; obtain ⟨Ao119, co119, eo119⟩ := Kd.R_slice HO28.out; subst eo119) | ((with_reducible refine gate_callee (f := 37) rfl ?_); refine goesL_ (some 54) rfl rfl Try.func37 (by kernel_rfl) rfl #[.slice Ao119 y26.length co119] rfl (by (try simp only [List.map_toArray, List.map_cons, List.map_nil]); first | done | rfl | (simp only [List.length_drop, List.length_take]; rfl)) ?_; (with_reducible refine (q25z.calls k _ _ y26 t29 _ ?side1 ?side2 A102.out).mono ?_); (case side1 => repeat (first | exact (Kd.R_reads' HO28.out).2.2 | (with_reducible refine Kd.C_alloc ?_ _) | (with_reducible refine Kd.C_drewN ?_ _) | (with_reducible refine Kd.C_drew ?_))); (case side2 => exact (Kd.R_reads' HO28.out).2.1); rintro e w120 ⟨v30, rfl, ho0, hb⟩; refine ⟨_, rfl, ?_⟩; have HO31 := Aside0.mk (Kd.R_lower (Kd.R_new' (Kd.R_new' ho0 (Kd.R_lt (rW HO8))) (Kd.R_lt (rW HO28))) (below_size (hbW HB))); replace HO8 := Aside0.mk (Kd.R_elder' (rW HO8) (Kd.R_base ho0) hb); replace HO28 := Aside0.mk (Kd.R_elder' (rW HO28) (Kd.R_base ho0) hb); replace BK1 := bkB BK1 hb; replace BK2 := bkB BK2 hb; replace BK3 := bkB BK3 hb; replace HB := hbS HB hb; (try clear hb); (try clear hk); (try clear ho0); obtain ⟨Ao121, co121, eo121⟩ := Kd.R_slice HO31.out; subst eo121; obtain ⟨hcz122_0, hcz122_1, hcz122_2, hcz122_3, hcz122_4, hcz122_5, hcz122_6, hcz122_7, hfz122_0, hfz122_1, hfz122_2, hfz122_3, hfz122_4, hfz122_5, hfz122_6, hfz122_7⟩ := bc8 BK2; obtain ⟨hcz123_0, hcz123_1, hcz123_2, hcz123_3, hcz123_4, hcz123_5, hcz123_6, hcz123_7, hfz123_0, hfz123_1, hfz123_2, hfz123_3, hfz123_4, hfz123_5, hfz123_6, hfz123_7⟩ := bc8 BK3))
         refine bodyPost_ret (results_cell_row rfl _ _ gb3 30 #[.int .u32 t4, .int .i64 t5, .slice Ao15 t6.length co15, .slice Ao121 t29.length co121, .int .u32 t12, .int .u32 t13, .int .i64 t14, .int .u32 t15] (0, 0) _ rfl (bp8 BK3) Try.underlying30 rfl (by kernel_rfl)) rfl ?_
         exact ⟨_, _, by first | rfl | (simp [errW_none, errW_some] <;> rfl) | (simp [*, errW_none, errW_some] <;> rfl), by (with_reducible repeat (first | apply Kd.R_alloc | apply Kd.R_drewN | apply Kd.R_drew)); exact Kd.R_mono (Kd.R_far (p := ⟨gb3, 7, none⟩) (Kd.R_far (p := ⟨gb3, 6, none⟩) (Kd.R_far (p := ⟨gb3, 5, none⟩) (Kd.R_far (p := ⟨gb3, 4, none⟩) (Kd.R_far (p := ⟨gb3, 3, none⟩) (Kd.R_far (p := ⟨gb3, 2, none⟩) (Kd.R_far (p := ⟨gb3, 1, none⟩) (Kd.R_far (p := ⟨gb3, 0, none⟩) (Kd.R_far (p := ⟨gb2, 3, none⟩) (Kd.R_types (Kd.R_types HO8.out BK2.out (by decide)) BK3.out (by decide)) (fun _ hk => hk.1.2) (.slice Ao121 t29.length co121)) (fun _ hk => hk.2) (.int .u32 t4)) (fun _ hk => hk.2) (.int .i64 t5)) (fun _ hk => hk.2) (.slice Ao15 t6.length co15)) (fun _ hk => hk.2) (.slice Ao121 t29.length co121)) (fun _ hk => hk.2) (.int .u32 t12)) (fun _ hk => hk.2) (.int .u32 t13)) (fun _ hk => hk.2) (.int .i64 t14)) (fun _ hk => hk.2) (.int .u32 t15)) (fun _ hk => hk.1.1.2), by (with_reducible repeat (first | apply Kd.R_alloc | apply Kd.R_drewN | apply Kd.R_drew)); exact Kd.R_mono (Kd.R_far (p := ⟨gb3, 7, none⟩) (Kd.R_far (p := ⟨gb3, 6, none⟩) (Kd.R_far (p := ⟨gb3, 5, none⟩) (Kd.R_far (p := ⟨gb3, 4, none⟩) (Kd.R_far (p := ⟨gb3, 3, none⟩) (Kd.R_far (p := ⟨gb3, 2, none⟩) (Kd.R_far (p := ⟨gb3, 1, none⟩) (Kd.R_far (p := ⟨gb3, 0, none⟩) (Kd.R_far (p := ⟨gb2, 3, none⟩) (Kd.R_types (Kd.R_types HO31.out BK2.out (by decide)) BK3.out (by decide)) (fun _ hk => hk.1.2) (.slice Ao121 t29.length co121)) (fun _ hk => hk.2) (.int .u32 t4)) (fun _ hk => hk.2) (.int .i64 t5)) (fun _ hk => hk.2) (.slice Ao15 t6.length co15)) (fun _ hk => hk.2) (.slice Ao121 t29.length co121)) (fun _ hk => hk.2) (.int .u32 t12)) (fun _ hk => hk.2) (.int .u32 t13)) (fun _ hk => hk.2) (.int .i64 t14)) (fun _ hk => hk.2) (.int .u32 t15)) (fun _ hk => hk.1.1.1.2), hbW HB⟩
        ·
         rw [if_neg c101] at H
         exact absurd H (by simp)
       ·
        rw [if_neg c100] at H
        have c100b0 : (a0_0 == 6) = false := beq_eq_false_iff_ne.mpr c100
        have c100b1 : (a0_0 != 6) = true := bne_iff_ne.mpr c100
        by_cases c124 : a0_0 = 7
        ·
         rw [if_pos c124] at H
         have c124b0 : (a0_0 == 7) = true := beq_iff_eq.mpr c124
         have c124b1 : (a0_0 != 7) = false := bne_eq_false_iff_eq.mpr c124
         clear c124
         replace H := Option.bind_eq_some_iff.mp H
         obtain ⟨t32, A1250, H⟩ := H
         replace H : (some (t4, t5, t6, t32, t12, t13, t14, t15)) = some (r1, r2, r3, r4, r5, r6, r7, r8) := H
         have A125 := Aside0.mk A1250
         clear A1250
         simp only [Option.some.injEq, Prod.mk.injEq] at H
         obtain ⟨rfl, rfl, rfl, rfl, rfl, rfl, rfl, rfl⟩ := H
         go_wp2_with (first | ((with_reducible refine gate_callee (f := 37) rfl ?_); refine goesL_ (some 60) rfl rfl Try.func37 (by kernel_rfl) rfl #[.slice A0_2 l0_2.length c0_2] rfl (by (try simp only [List.map_toArray, List.map_cons, List.map_nil]); first | done | rfl | (simp only [List.length_drop, List.length_take]; rfl)) ?_; (with_reducible refine (q25z.calls k _ _ l0_2 t32 _ ?side1 ?side2 A125.out).mono ?_); (case side1 => repeat (first | exact (Kd.C_below HR0_2.out HB.out) | (with_reducible refine Kd.C_alloc ?_ _) | (with_reducible refine Kd.C_drewN ?_ _) | (with_reducible refine Kd.C_drew ?_))); (case side2 => exact HC0_2.out); rintro e w140 ⟨v33, rfl, ho0, hb⟩; refine ⟨_, rfl, ?_⟩; have HO34 := Aside0.mk (Kd.R_lower (Kd.R_new' (Kd.R_new' ho0 (Kd.R_lt (rW HO8))) (Kd.R_lt (rW HO11))) (below_size (hbW HB))); replace HO8 := Aside0.mk (Kd.R_elder' (rW HO8) (Kd.R_base ho0) hb); replace HO11 := Aside0.mk (Kd.R_elder' (rW HO11) (Kd.R_base ho0) hb); replace BK1 := bkB BK1 hb; replace BK2 := bkB BK2 hb; replace BK3 := bkB BK3 hb; replace HB := hbS HB hb; (try clear hb); (try clear ho0); obtain ⟨Ao141, co141, eo141⟩ := Kd.R_slice HO34.out; subst eo141; obtain ⟨hcz142_0, hcz142_1, hcz142_2, hcz142_3, hcz142_4, hcz142_5, hcz142_6, hcz142_7, hfz142_0, hfz142_1, hfz142_2, hfz142_3, hfz142_4, hfz142_5, hfz142_6, hfz142_7⟩ := bc8 BK2; obtain ⟨hcz143_0, hcz143_1, hcz143_2, hcz143_3, hcz143_4, hcz143_5, hcz143_6, hcz143_7, hfz143_0, hfz143_1, hfz143_2, hfz143_3, hfz143_4, hfz143_5, hfz143_6, hfz143_7⟩ := bc8 BK3))
         refine bodyPost_ret (results_cell_row rfl _ _ gb3 30 #[.int .u32 t4, .int .i64 t5, .slice Ao15 t6.length co15, .slice Ao141 t32.length co141, .int .u32 t12, .int .u32 t13, .int .i64 t14, .int .u32 t15] (0, 0) _ rfl (bp8 BK3) Try.underlying30 rfl (by kernel_rfl)) rfl ?_
         exact ⟨_, _, by first | rfl | (simp [errW_none, errW_some] <;> rfl) | (simp [*, errW_none, errW_some] <;> rfl), by (with_reducible repeat (first | apply Kd.R_alloc | apply Kd.R_drewN | apply Kd.R_drew)); exact Kd.R_mono (Kd.R_far (p := ⟨gb3, 7, none⟩) (Kd.R_far (p := ⟨gb3, 6, none⟩) (Kd.R_far (p := ⟨gb3, 5, none⟩) (Kd.R_far (p := ⟨gb3, 4, none⟩) (Kd.R_far (p := ⟨gb3, 3, none⟩) (Kd.R_far (p := ⟨gb3, 2, none⟩) (Kd.R_far (p := ⟨gb3, 1, none⟩) (Kd.R_far (p := ⟨gb3, 0, none⟩) (Kd.R_far (p := ⟨gb2, 3, none⟩) (Kd.R_types (Kd.R_types HO8.out BK2.out (by decide)) BK3.out (by decide)) (fun _ hk => hk.1.2) (.slice Ao141 t32.length co141)) (fun _ hk => hk.2) (.int .u32 t4)) (fun _ hk => hk.2) (.int .i64 t5)) (fun _ hk => hk.2) (.slice Ao15 t6.length co15)) (fun _ hk => hk.2) (.slice Ao141 t32.length co141)) (fun _ hk => hk.2) (.int .u32 t12)) (fun _ hk => hk.2) (.int .u32 t13)) (fun _ hk => hk.2) (.int .i64 t14)) (fun _ hk => hk.2) (.int .u32 t15)) (fun _ hk => hk.1.1.2), by (with_reducible repeat (first | apply Kd.R_alloc | apply Kd.R_drewN | apply Kd.R_drew)); exact Kd.R_mono (Kd.R_far (p := ⟨gb3, 7, none⟩) (Kd.R_far (p := ⟨gb3, 6, none⟩) (Kd.R_far (p := ⟨gb3, 5, none⟩) (Kd.R_far (p := ⟨gb3, 4, none⟩) (Kd.R_far (p := ⟨gb3, 3, none⟩) (Kd.R_far (p := ⟨gb3, 2, none⟩) (Kd.R_far (p := ⟨gb3, 1, none⟩) (Kd.R_far (p := ⟨gb3, 0, none⟩) (Kd.R_far (p := ⟨gb2, 3, none⟩) (Kd.R_types (Kd.R_types HO34.out BK2.out (by decide)) BK3.out (by decide)) (fun _ hk => hk.1.2) (.slice Ao141 t32.length co141)) (fun _ hk => hk.2) (.int .u32 t4)) (fun _ hk => hk.2) (.int .i64 t5)) (fun _ hk => hk.2) (.slice Ao15 t6.length co15)) (fun _ hk => hk.2) (.slice Ao141 t32.length co141)) (fun _ hk => hk.2) (.int .u32 t12)) (fun _ hk => hk.2) (.int .u32 t13)) (fun _ hk => hk.2) (.int .i64 t14)) (fun _ hk => hk.2) (.int .u32 t15)) (fun _ hk => hk.1.1.1.2), hbW HB⟩
        ·
         rw [if_neg c124] at H
         have c124b0 : (a0_0 == 7) = false := beq_eq_false_iff_ne.mpr c124
         have c124b1 : (a0_0 != 7) = true := bne_iff_ne.mpr c124
         by_cases c144 : a0_0 = 8
         ·
          rw [if_pos c144] at H
          have c144b0 : (a0_0 == 8) = true := beq_iff_eq.mpr c144
          have c144b1 : (a0_0 != 8) = false := bne_eq_false_iff_eq.mpr c144
          clear c144
          have H' := Aside0.mk H
          clear H
          go_wp2
          go_loopg [5, 67] k (fun kq v5 v67 w' => ∃ (x5_1 : List Int) (x67_1 : Int), v67 = .int .i64 x67_1 ∧ Aside0 (q26z.l0 kq x5_1 t9 (t9.length : Int) x67_1 a0_0 a0_1 l0_2 l0_3 t4 t5 t6 t9 t12 t13 t14 t15 = some (r1, r2, r3, r4, r5, r6, r7, r8)) ∧ Aside0 (kq ≤ k) ∧ Aside0 (Kd.R (Kd.int .u32) 22 w' w.heap.size (fun k_ => some k_ ≠ ((.slice Ao16 t9.length co16) : Value).ownBlock ∧ some k_ ≠ ((.slice Ao15 t6.length co15) : Value).ownBlock ∧ some k_ ≠ ((.slice Ao16 t9.length co16) : Value).ownBlock) v5 x5_1) ∧ Aside0 (Kd.R (Kd.int .u32) 22 w' w.heap.size (fun k_ => some k_ ≠ (v5 : Value).ownBlock ∧ some k_ ≠ ((.slice Ao15 t6.length co15) : Value).ownBlock) (.slice Ao16 t9.length co16) t9) ∧ Aside0 (Kd.R (Kd.int .u32) 22 w' w.heap.size (fun k_ => some k_ ≠ (v5 : Value).ownBlock ∧ some k_ ≠ ((.slice Ao16 t9.length co16) : Value).ownBlock ∧ some k_ ≠ ((.slice Ao16 t9.length co16) : Value).ownBlock) (.slice Ao15 t6.length co15) t6) ∧ Aside0 (Kd.R (Kd.int .u32) 22 w' w.heap.size (fun k_ => some k_ ≠ (v5 : Value).ownBlock ∧ some k_ ≠ ((.slice Ao15 t6.length co15) : Value).ownBlock) (.slice Ao16 t9.length co16) t9) ∧ Aside0 (w'.heap[gb1]? = some (.cells #[.int .i64 a0_0, .int .u32 a0_1, (.slice A0_2 l0_2.length c0_2), (.slice A0_3 l0_3.length c0_3)] 26 (0, 0))) ∧ Aside0 (w'.heap[gb2]? = some (.cells #[.int .u32 t4, .int .i64 t5, (.slice Ao15 t6.length co15), (.slice Ao16 t9.length co16), .int .u32 t12, .int .u32 t13, .int .i64 t14, .int .u32 t15] 30 (0, 0))) ∧ Aside0 (w'.heap[gb3]? = some (.cells #[.int .u32 0, .int .i64 0, (.slice none 0 0), (.slice none 0 0), .int .u32 0, .int .u32 0, .int .i64 0, .int .u32 0] 30 (0, 0))) ∧ Aside0 (Below w.heap.size w w'))
          case atStart => exact ⟨(([] : List Int)), (0), (by first | rfl | (simp; done) | (simp [*]; done)), H', ⟨Nat.le_refl _⟩, ⟨by first | exact Kd.R_nil _ _ _ _ _ | exact Kd.N_nil _ _ _ _ _ | exact Kd.V_nil _ _ _ _ _ | exact Kd.Q_nil _ _ _ _ _ | exact Kd.S_nil _ _ _ _ _⟩, ⟨by (with_reducible repeat (first | apply Kd.R_alloc | apply Kd.R_drewN | apply Kd.R_drew)); exact Kd.R_mono HO11.out (fun _ hk => ⟨(by simp [Value.ownBlock]), hk⟩)⟩, ⟨by (with_reducible repeat (first | apply Kd.R_alloc | apply Kd.R_drewN | apply Kd.R_drew)); exact Kd.R_mono HO8.out (fun _ hk => ⟨(by simp [Value.ownBlock]), ⟨hk, hk⟩⟩)⟩, ⟨by (with_reducible repeat (first | apply Kd.R_alloc | apply Kd.R_drewN | apply Kd.R_drew)); exact Kd.R_mono HO11.out (fun _ hk => ⟨(by simp [Value.ownBlock]), hk⟩)⟩, ⟨by (with_reducible repeat (first | refine blk_drewN ?_ _ | refine blk_drew ?_ | refine blk_alloc ?_ _)); exact BK1.out⟩, ⟨by (with_reducible repeat (first | refine blk_drewN ?_ _ | refine blk_drew ?_ | refine blk_alloc ?_ _)); exact BK2.out⟩, ⟨by (with_reducible repeat (first | refine blk_drewN ?_ _ | refine blk_drew ?_ | refine blk_alloc ?_ _)); exact BK3.out⟩, ⟨hbW HB⟩⟩
          case round =>
           clear H'
           try clear c1
           try clear c2
           try clear p2
           try clear c3
           try clear c4
           try clear c5
           try clear c6
           try clear c6b0
           try clear c6b1
           try clear p6
           try clear c7
           try clear c8
           try clear c10
           try clear c11
           try clear c12
           try clear c13
           try clear c14
           try clear c15
           try clear c17
           try clear c23
           try clear c23b0
           try clear c23b1
           try clear c27
           try clear c28
           try clear c34
           try clear c37
           try clear c40
           try clear c40b0
           try clear c40b1
           try clear c44
           try clear c45
           try clear c51
           try clear c57
           try clear c57b0
           try clear c57b1
           try clear c61
           try clear c62
           try clear p64
           try clear c68
           try clear c74
           try clear c74b0
           try clear c74b1
           try clear c75
           try clear c76
           try clear c80
           try clear c81
           try clear c87
           try clear c100
           try clear c100b0
           try clear c100b1
           try clear c101
           try clear c106
           try clear c107
           try clear c113
           try clear c124
           try clear c124b0
           try clear c124b1
           try clear c129
           try clear c130
           try clear c136
           try clear c144
           try clear c144b0
           try clear c144b1
           try clear c148
           try clear c149
           try clear c155
           try clear hcz108_0
           try clear hcz108_1
           try clear hcz108_2
           try clear hcz108_3
           try clear hcz108_4
           try clear hcz108_5
           try clear hcz108_6
           try clear hcz108_7
           try clear hcz110_0
           try clear hcz110_1
           try clear hcz110_2
           try clear hcz110_3
           try clear hcz110_4
           try clear hcz110_5
           try clear hcz110_6
           try clear hcz110_7
           try clear hcz114_0
           try clear hcz114_1
           try clear hcz114_2
           try clear hcz114_3
           try clear hcz116_0
           try clear hcz116_1
           try clear hcz116_2
           try clear hcz116_3
           try clear hcz117_0
           try clear hcz117_1
           try clear hcz117_2
           try clear hcz117_3
           try clear hcz117_4
           try clear hcz117_5
           try clear hcz117_6
           try clear hcz117_7
           try clear hcz122_0
           try clear hcz122_1
           try clear hcz122_2
           try clear hcz122_3
           try clear hcz122_4
           try clear hcz122_5
           try clear hcz122_6
           try clear hcz122_7
           try clear hcz123_0
           try clear hcz123_1
           try clear hcz123_2
           try clear hcz123_3
           try clear hcz123_4
           try clear hcz123_5
           try clear hcz123_6
           try clear hcz123_7
           try clear hcz12_0
           try clear hcz12_1
           try clear hcz12_2
           try clear hcz12_3
           try clear hcz12_4
           try clear hcz12_5
           try clear hcz12_6
           try clear hcz12_7
           try clear hcz131_0
           try clear hcz131_1
           try clear hcz131_2
           try clear hcz131_3
           try clear hcz131_4
           try clear hcz131_5
           try clear hcz131_6
           try clear hcz131_7
           try clear hcz133_0
           try clear hcz133_1
           try clear hcz133_2
           try clear hcz133_3
           try clear hcz133_4
           try clear hcz133_5
           try clear hcz133_6
           try clear hcz133_7
           try clear hcz137_0
           try clear hcz137_1
           try clear hcz137_2
           try clear hcz137_3
           try clear hcz139_0
           try clear hcz139_1
           try clear hcz139_2
           try clear hcz139_3
           try clear hcz142_0
           try clear hcz142_1
           try clear hcz142_2
           try clear hcz142_3
           try clear hcz142_4
           try clear hcz142_5
           try clear hcz142_6
           try clear hcz142_7
           try clear hcz143_0
           try clear hcz143_1
           try clear hcz143_2
           try clear hcz143_3
           try clear hcz143_4
           try clear hcz143_5
           try clear hcz143_6
           try clear hcz143_7
           try clear hcz14_0
           try clear hcz14_1
           try clear hcz14_2
           try clear hcz14_3
           try clear hcz14_4
           try clear hcz14_5
           try clear hcz14_6
           try clear hcz14_7
           try clear hcz150_0
           try clear hcz150_1
           try clear hcz150_2
           try clear hcz150_3
           try clear hcz150_4
           try clear hcz150_5
           try clear hcz150_6
           try clear hcz150_7
           try clear hcz14_0
           try clear hcz14_1
           try clear hcz14_2
           try clear hcz14_3
           try clear hcz14_4
           try clear hcz14_5
           try clear hcz14_6
           try clear hcz14_7
           try clear hcz156_0
           try clear hcz156_1
           try clear hcz156_2
           try clear hcz156_3
           try clear hcz158_0
           try clear hcz158_1
           try clear hcz158_2
           try clear hcz158_3
           try clear hcz159_0
           try clear hcz159_1
           try clear hcz159_2
           try clear hcz159_3
           try clear hcz159_4
           try clear hcz159_5
           try clear hcz159_6
           try clear hcz159_7
           try clear hcz18_0
           try clear hcz18_1
           try clear hcz18_2
           try clear hcz18_3
           try clear hcz20_0
           try clear hcz20_1
           try clear hcz20_2
           try clear hcz20_3
           try clear hcz21_0
           try clear hcz21_1
           try clear hcz21_2
           try clear hcz21_3
           try clear hcz21_4
           try clear hcz21_5
           try clear hcz21_6
           try clear hcz21_7
           try clear hcz22_0
           try clear hcz22_1
           try clear hcz22_2
           try clear hcz22_3
           try clear hcz22_4
           try clear hcz22_5
           try clear hcz22_6
           try clear hcz22_7
           try clear hcz29_0
           try clear hcz29_1
           try clear hcz29_2
           try clear hcz29_3
           try clear hcz29_4
           try clear hcz29_5
           try clear hcz29_6
           try clear hcz29_7
           try clear hcz31_0
           try clear hcz31_1
           try clear hcz31_2
           try clear hcz31_3
           try clear hcz31_4
           try clear hcz31_5
           try clear hcz31_6
           try clear hcz31_7
           try clear hcz35_0
           try clear hcz35_1
           try clear hcz35_2
           try clear hcz35_3
           try clear hcz37_0
           try clear hcz37_1
           try clear hcz37_2
           try clear hcz37_3
           try clear hcz38_0
           try clear hcz38_1
           try clear hcz38_2
           try clear hcz38_3
           try clear hcz38_4
           try clear hcz38_5
           try clear hcz38_6
           try clear hcz38_7
           try clear hcz39_0
           try clear hcz39_1
           try clear hcz39_2
           try clear hcz39_3
           try clear hcz39_4
           try clear hcz39_5
           try clear hcz39_6
           try clear hcz39_7
           try clear hcz46_0
           try clear hcz46_1
           try clear hcz46_2
           try clear hcz46_3
           try clear hcz46_4
           try clear hcz46_5
           try clear hcz46_6
           try clear hcz46_7
           try clear hcz48_0
           try clear hcz48_1
           try clear hcz48_2
           try clear hcz48_3
           try clear hcz48_4
           try clear hcz48_5
           try clear hcz48_6
           try clear hcz48_7
           try clear hcz52_0
           try clear hcz52_1
           try clear hcz52_2
           try clear hcz52_3
           try clear hcz54_0
           try clear hcz54_1
           try clear hcz54_2
           try clear hcz54_3
           try clear hcz55_0
           try clear hcz55_1
           try clear hcz55_2
           try clear hcz55_3
           try clear hcz55_4
           try clear hcz55_5
           try clear hcz55_6
           try clear hcz55_7
           try clear hcz56_0
           try clear hcz56_1
           try clear hcz56_2
           try clear hcz56_3
           try clear hcz56_4
           try clear hcz56_5
           try clear hcz56_6
           try clear hcz56_7
           try clear hcz63_0
           try clear hcz63_1
           try clear hcz63_2
           try clear hcz63_3
           try clear hcz63_4
           try clear hcz63_5
           try clear hcz63_6
           try clear hcz63_7
           try clear hcz65_0
           try clear hcz65_1
           try clear hcz65_2
           try clear hcz65_3
           try clear hcz65_4
           try clear hcz65_5
           try clear hcz65_6
           try clear hcz65_7
           try clear hcz69_0
           try clear hcz69_1
           try clear hcz69_2
           try clear hcz69_3
           try clear hcz71_0
           try clear hcz71_1
           try clear hcz71_2
           try clear hcz71_3
           try clear hcz72_0
           try clear hcz72_1
           try clear hcz72_2
           try clear hcz72_3
           try clear hcz72_4
           try clear hcz72_5
           try clear hcz72_6
           try clear hcz72_7
           try clear hcz73_0
           try clear hcz73_1
           try clear hcz73_2
           try clear hcz73_3
           try clear hcz73_4
           try clear hcz73_5
           try clear hcz73_6
           try clear hcz73_7
           try clear hcz82_0
           try clear hcz82_1
           try clear hcz82_2
           try clear hcz82_3
           try clear hcz82_4
           try clear hcz82_5
           try clear hcz82_6
           try clear hcz82_7
           try clear hcz84_0
           try clear hcz84_1
           try clear hcz84_2
           try clear hcz84_3
           try clear hcz84_4
           try clear hcz84_5
           try clear hcz84_6
           try clear hcz84_7
           try clear hcz88_0
           try clear hcz88_1
           try clear hcz88_2
           try clear hcz88_3
           try clear hcz90_0
           try clear hcz90_1
           try clear hcz90_2
           try clear hcz90_3
           try clear hcz98_0
           try clear hcz98_1
           try clear hcz98_2
           try clear hcz98_3
           try clear hcz98_4
           try clear hcz98_5
           try clear hcz98_6
           try clear hcz98_7
           try clear hcz99_0
           try clear hcz99_1
           try clear hcz99_2
           try clear hcz99_3
           try clear hcz99_4
           try clear hcz99_5
           try clear hcz99_6
           try clear hcz99_7
           try clear hfz108_0
           try clear hfz108_1
           try clear hfz108_2
           try clear hfz108_3
           try clear hfz108_4
           try clear hfz108_5
           try clear hfz108_6
           try clear hfz108_7
           try clear hfz110_0
           try clear hfz110_1
           try clear hfz110_2
           try clear hfz110_3
           try clear hfz110_4
           try clear hfz110_5
           try clear hfz110_6
           try clear hfz110_7
           try clear hfz114_0
           try clear hfz114_1
           try clear hfz114_2
           try clear hfz114_3
           try clear hfz116_0
           try clear hfz116_1
           try clear hfz116_2
           try clear hfz116_3
           try clear hfz117_0
           try clear hfz117_1
           try clear hfz117_2
           try clear hfz117_3
           try clear hfz117_4
           try clear hfz117_5
           try clear hfz117_6
           try clear hfz117_7
           try clear hfz122_0
           try clear hfz122_1
           try clear hfz122_2
           try clear hfz122_3
           try clear hfz122_4
           try clear hfz122_5
           try clear hfz122_6
           try clear hfz122_7
           try clear hfz123_0
           try clear hfz123_1
           try clear hfz123_2
           try clear hfz123_3
           try clear hfz123_4
           try clear hfz123_5
           try clear hfz123_6
           try clear hfz123_7
           try clear hfz12_0
           try clear hfz12_1
           try clear hfz12_2
           try clear hfz12_3
           try clear hfz12_4
           try clear hfz12_5
           try clear hfz12_6
           try clear hfz12_7
           try clear hfz131_0
           try clear hfz131_1
           try clear hfz131_2
           try clear hfz131_3
           try clear hfz131_4
           try clear hfz131_5
           try clear hfz131_6
           try clear hfz131_7
           try clear hfz133_0
           try clear hfz133_1
           try clear hfz133_2
           try clear hfz133_3
           try clear hfz133_4
           try clear hfz133_5
           try clear hfz133_6
           try clear hfz133_7
           try clear hfz137_0
           try clear hfz137_1
           try clear hfz137_2
           try clear hfz137_3
           try clear hfz139_0
           try clear hfz139_1
           try clear hfz139_2
           try clear hfz139_3
           try clear hfz142_0
           try clear hfz142_1
           try clear hfz142_2
           try clear hfz142_3
           try clear hfz142_4
           try clear hfz142_5
           try clear hfz142_6
           try clear hfz142_7
           try clear hfz143_0
           try clear hfz143_1
           try clear hfz143_2
           try clear hfz143_3
           try clear hfz143_4
           try clear hfz143_5
           try clear hfz143_6
           try clear hfz143_7
           try clear hfz14_0
           try clear hfz14_1
           try clear hfz14_2
           try clear hfz14_3
           try clear hfz14_4
           try clear hfz14_5
           try clear hfz14_6
           try clear hfz14_7
           try clear hfz150_0
           try clear hfz150_1
           try clear hfz150_2
           try clear hfz150_3
           try clear hfz150_4
           try clear hfz150_5
           try clear hfz150_6
           try clear hfz150_7
           try clear hfz14_0
           try clear hfz14_1
           try clear hfz14_2
           try clear hfz14_3
           try clear hfz14_4
           try clear hfz14_5
           try clear hfz14_6
           try clear hfz14_7
           try clear hfz156_0
           try clear hfz156_1
           try clear hfz156_2
           try clear hfz156_3
           try clear hfz158_0
           try clear hfz158_1
           try clear hfz158_2
           try clear hfz158_3
           try clear hfz159_0
           try clear hfz159_1
           try clear hfz159_2
           try clear hfz159_3
           try clear hfz159_4
           try clear hfz159_5
           try clear hfz159_6
           try clear hfz159_7
           try clear hfz18_0
           try clear hfz18_1
           try clear hfz18_2
           try clear hfz18_3
           try clear hfz20_0
           try clear hfz20_1
           try clear hfz20_2
           try clear hfz20_3
           try clear hfz21_0
           try clear hfz21_1
           try clear hfz21_2
           try clear hfz21_3
           try clear hfz21_4
           try clear hfz21_5
           try clear hfz21_6
           try clear hfz21_7
           try clear hfz22_0
           try clear hfz22_1
           try clear hfz22_2
           try clear hfz22_3
           try clear hfz22_4
           try clear hfz22_5
           try clear hfz22_6
           try clear hfz22_7
           try clear hfz29_0
           try clear hfz29_1
           try clear hfz29_2
           try clear hfz29_3
           try clear hfz29_4
           try clear hfz29_5
           try clear hfz29_6
           try clear hfz29_7
           try clear hfz31_0
           try clear hfz31_1
           try clear hfz31_2
           try clear hfz31_3
           try clear hfz31_4
           try clear hfz31_5
           try clear hfz31_6
           try clear hfz31_7
           try clear hfz35_0
           try clear hfz35_1
           try clear hfz35_2
           try clear hfz35_3
           try clear hfz37_0
           try clear hfz37_1
           try clear hfz37_2
           try clear hfz37_3
           try clear hfz38_0
           try clear hfz38_1
           try clear hfz38_2
           try clear hfz38_3
           try clear hfz38_4
           try clear hfz38_5
           try clear hfz38_6
           try clear hfz38_7
           try clear hfz39_0
           try clear hfz39_1
           try clear hfz39_2
           try clear hfz39_3
           try clear hfz39_4
           try clear hfz39_5
           try clear hfz39_6
           try clear hfz39_7
           try clear hfz46_0
           try clear hfz46_1
           try clear hfz46_2
           try clear hfz46_3
           try clear hfz46_4
           try clear hfz46_5
           try clear hfz46_6
           try clear hfz46_7
           try clear hfz48_0
           try clear hfz48_1
           try clear hfz48_2
           try clear hfz48_3
           try clear hfz48_4
           try clear hfz48_5
           try clear hfz48_6
           try clear hfz48_7
           try clear hfz52_0
           try clear hfz52_1
           try clear hfz52_2
           try clear hfz52_3
           try clear hfz54_0
           try clear hfz54_1
           try clear hfz54_2
           try clear hfz54_3
           try clear hfz55_0
           try clear hfz55_1
           try clear hfz55_2
           try clear hfz55_3
           try clear hfz55_4
           try clear hfz55_5
           try clear hfz55_6
           try clear hfz55_7
           try clear hfz56_0
           try clear hfz56_1
           try clear hfz56_2
           try clear hfz56_3
           try clear hfz56_4
           try clear hfz56_5
           try clear hfz56_6
           try clear hfz56_7
           try clear hfz63_0
           try clear hfz63_1
           try clear hfz63_2
           try clear hfz63_3
           try clear hfz63_4
           try clear hfz63_5
           try clear hfz63_6
           try clear hfz63_7
           try clear hfz65_0
           try clear hfz65_1
           try clear hfz65_2
           try clear hfz65_3
           try clear hfz65_4
           try clear hfz65_5
           try clear hfz65_6
           try clear hfz65_7
           try clear hfz69_0
           try clear hfz69_1
           try clear hfz69_2
           try clear hfz69_3
           try clear hfz71_0
           try clear hfz71_1
           try clear hfz71_2
           try clear hfz71_3
           try clear hfz72_0
           try clear hfz72_1
           try clear hfz72_2
           try clear hfz72_3
           try clear hfz72_4
           try clear hfz72_5
           try clear hfz72_6
           try clear hfz72_7
           try clear hfz73_0
           try clear hfz73_1
           try clear hfz73_2
           try clear hfz73_3
           try clear hfz73_4
           try clear hfz73_5
           try clear hfz73_6
           try clear hfz73_7
           try clear hfz82_0
           try clear hfz82_1
           try clear hfz82_2
           try clear hfz82_3
           try clear hfz82_4
           try clear hfz82_5
           try clear hfz82_6
           try clear hfz82_7
           try clear hfz84_0
           try clear hfz84_1
           try clear hfz84_2
           try clear hfz84_3
           try clear hfz84_4
           try clear hfz84_5
           try clear hfz84_6
           try clear hfz84_7
           try clear hfz88_0
           try clear hfz88_1
           try clear hfz88_2
           try clear hfz88_3
           try clear hfz90_0
           try clear hfz90_1
           try clear hfz90_2
           try clear hfz90_3
           try clear hfz98_0
           try clear hfz98_1
           try clear hfz98_2
           try clear hfz98_3
           try clear hfz98_4
           try clear hfz98_5
           try clear hfz98_6
           try clear hfz98_7
           try clear hfz99_0
           try clear hfz99_1
           try clear hfz99_2
           try clear hfz99_3
           try clear hfz99_4
           try clear hfz99_5
           try clear hfz99_6
           try clear hfz99_7
           obtain ⟨x5_1, x67_1, rfl, HA, HK1, HO_5, HO_65, HO_3002, HO_3003, BK1, BK2, BK3, HB⟩ := hrel
           cases gk with
           | zero => exact absurd HA.out (by simp [q26z.l0])
           | succ k1 =>
            have H := HA.out
            clear HA
            simp only [q26z.l0] at H
            by_cases c160 : x67_1 < (t9.length : Int)
            ·
             rw [if_pos c160] at H
             have c160b0 : decide (x67_1 < (t9.length : Int)) = true := decide_eq_true c160
             clear c160
             by_cases c161 : 0 ≤ x67_1
             ·
              rw [if_pos c161] at H
              have c161b0 : decide (0 ≤ x67_1) = true := decide_eq_true c161
              clear c161
              by_cases c162 : x67_1 < (t9.length : Int)
              ·
               rw [if_pos c162] at H
               have c162b0 : decide (x67_1 < (t9.length : Int)) = true := decide_eq_true c162
               clear c162
               obtain ⟨y36, hy36⟩ : ∃ y_ : List Int, y_ = (([rd t9 x67_1] : List Int)) := ⟨_, rfl⟩
               replace H : ((q24z.f k1 l0_3 y36).bind fun t39 => (if t39 = true then (q26z.l0 k1 x5_1 t9 (t9.length : Int) (wrap64 (x67_1 + 1)) a0_0 a0_1 l0_2 l0_3 t4 t5 t6 t9 t12 t13 t14 t15) else (if x5_1.length < 35184372088832 then (q26z.l0 k1 (x5_1 ++ [rd t9 x67_1]) t9 (t9.length : Int) (wrap64 (x67_1 + 1)) a0_0 a0_1 l0_2 l0_3 t4 t5 t6 t9 t12 t13 t14 t15) else (none)))) = some (r1, r2, r3, r4, r5, r6, r7, r8) := by first | (rw [hy36]; with_reducible exact H) | (have H2_ := (Option.bind_some _ _).symm.trans H; rw [hy36]; with_reducible exact H2_) | (have H2_ := (Option.bind_some _ _).symm.trans H; with_reducible exact H2_) | with_reducible exact H | (rw [hy36]; exact H) | exact H
               have Ny36 := Aside0.mk hy36
               clear hy36
               replace H := Option.bind_eq_some_iff.mp H
               obtain ⟨t39, A1630, H⟩ := H
               replace H : (if t39 = true then (q26z.l0 k1 x5_1 t9 (t9.length : Int) (wrap64 (x67_1 + 1)) a0_0 a0_1 l0_2 l0_3 t4 t5 t6 t9 t12 t13 t14 t15) else (if x5_1.length < 35184372088832 then (q26z.l0 k1 (x5_1 ++ [rd t9 x67_1]) t9 (t9.length : Int) (wrap64 (x67_1 + 1)) a0_0 a0_1 l0_2 l0_3 t4 t5 t6 t9 t12 t13 t14 t15) else (none))) = some (r1, r2, r3, r4, r5, r6, r7, r8) := H
               have A163 := Aside0.mk A1630
               clear A1630
               by_cases c164 : t39 = true
               ·
                subst c164
                have H1 : (q26z.l0 k1 x5_1 t9 (t9.length : Int) (wrap64 (x67_1 + 1)) a0_0 a0_1 l0_2 l0_3 t4 t5 t6 t9 t12 t13 t14 t15) = some (r1, r2, r3, r4, r5, r6, r7, r8) := by rw [if_pos rfl] at H; exact H
                clear H
                have H := H1
                clear H1
                have H' := Aside0.mk H
                clear H
                have p35 : 0 ≤ (x67_1 : Int) := of_decide_eq_true (by first | (with_reducible assumption) | assumption)
                have q35 : x67_1 < (t9.length : Int) := of_decide_eq_true (by first | (with_reducible assumption) | assumption)
                obtain ⟨ad35, e35, hx35_0⟩ := Kd.at_int (Kd.R_reads' HO_65.out).2.2 x67_1 p35 q35
                cases e35
                replace p35 := eq_true p35
                replace q35 := eq_true q35
                have hnb165 := NB1_2.out
                have hnc165 := NB2_1.out
                have hnb166 := NB1_3.out
                have hnc166 := NB3_1.out
                obtain ⟨hcz167_0, hcz167_1, hcz167_2, hcz167_3, hfz167_0, hfz167_1, hfz167_2, hfz167_3⟩ := bc4 BK1
                go_wp2_with (first | ((with_reducible refine gate_dst (N := 74) rfl ?_); refine Kd.R_lit (Kd.int .u32) _ 22 ?hg (N := 74) ?hd (xs := ([rd t9 x67_1] : List Int)) (inner := [.int .u32 (rd t9 x67_1)]) (ok := fun _ => True) (okp := fun _ => True) ?hr ?hp (fun _ hk => hk) trivial (Below.refl _ _) (Nat.le_refl _) (by simp) ?_; (case hd => rfl); (case hg => rfl); (case hr => first | (go_simp; done) | (go_simp; rfl)); (case hp => exact (Reps.one (show Kd.M (Kd.int .u32) _ _ _ (rd t9 x67_1) [.int .u32 (rd t9 x67_1)] from rfl) (Reps.none _ _))); intro v37 w168 ho169 hb hg_ hnew_; clear hg_ hnew_; (first | rw [← Ny36.out] at ho169 | (simp only [Int.reduceToNat] at ho169; rw [← Ny36.out] at ho169)); have HO38 := Aside0.mk (Kd.R_lower (Kd.R_new' (Kd.R_new' (Kd.R_new' (Kd.R_new' ho169 (Kd.R_lt (rW HO_5))) (Kd.R_lt (rW HO_65))) (Kd.R_lt (rW HO_3002))) (Kd.R_lt (rW HO_3003))) (below_size (hbW HB))); replace HO_5 := Aside0.mk (Kd.R_elder' (rW HO_5) (Kd.R_base ho169) hb); replace HO_65 := Aside0.mk (Kd.R_elder' (rW HO_65) (Kd.R_base ho169) hb); replace HO_3002 := Aside0.mk (Kd.R_elder' (rW HO_3002) (Kd.R_base ho169) hb); replace HO_3003 := Aside0.mk (Kd.R_elder' (rW HO_3003) (Kd.R_base ho169) hb); replace BK1 := bkB BK1 hb; replace BK2 := bkB BK2 hb; replace BK3 := bkB BK3 hb; replace HB := hbS HB hb; clear hb ho169; obtain ⟨Ao170, co170, eo170⟩ := Kd.R_slice HO38.out; subst eo170) | ((with_reducible refine gate_callee (f := 21) rfl ?_); refine goesL_ (some 75) rfl rfl Try.func21 (by kernel_rfl) rfl #[.slice A0_3 l0_3.length c0_3, .slice Ao170 y36.length co170] rfl (by (try simp only [List.map_toArray, List.map_cons, List.map_nil]); first | done | rfl | (simp only [List.length_drop, List.length_take]; rfl)) ?_; (with_reducible refine (q24z.calls k1 _ _ l0_3 _ _ y36 true _ ?side1 ?side2 ?side3 ?side4 A163.out).mono ?_); (case side1 => repeat (first | exact (Kd.C_below HR0_3.out HB.out) | (with_reducible refine Kd.C_alloc ?_ _) | (with_reducible refine Kd.C_drewN ?_ _) | (with_reducible refine Kd.C_drew ?_))); (case side2 => exact HC0_3.out); (case side3 => repeat (first | exact (Kd.R_reads' HO38.out).2.2 | (with_reducible refine Kd.C_alloc ?_ _) | (with_reducible refine Kd.C_drewN ?_ _) | (with_reducible refine Kd.C_drew ?_))); (case side4 => exact (Kd.R_reads' HO38.out).2.1); rintro e w171 ⟨rfl, hb⟩; refine ⟨_, rfl, ?_⟩; replace HO_5 := Aside0.mk (Kd.R_below (rW HO_5) hb); replace HO_65 := Aside0.mk (Kd.R_below (rW HO_65) hb); replace HO_3002 := Aside0.mk (Kd.R_below (rW HO_3002) hb); replace HO_3003 := Aside0.mk (Kd.R_below (rW HO_3003) hb); replace HO38 := Aside0.mk (Kd.R_below (rW HO38) hb); replace BK1 := bkB BK1 hb; replace BK2 := bkB BK2 hb; replace BK3 := bkB BK3 hb; replace HB := hbS HB hb; (try clear hb); (try clear hk)))
                go_roundg k1
                case measure => have := HK1.out; omega
                case rel => exact ⟨(x5_1), (wrap64 (x67_1 + 1)), (by first | rfl | (simp; done) | (simp [*]; done)), H', ⟨by have := HK1.out; omega⟩, ⟨by (with_reducible repeat (first | apply Kd.R_alloc | apply Kd.R_drewN | apply Kd.R_drew)); exact Kd.R_mono HO_5.out (fun _ hk => ⟨hk.1.1, ⟨hk.1.2.1, hk.1.2.2⟩⟩)⟩, ⟨by (with_reducible repeat (first | apply Kd.R_alloc | apply Kd.R_drewN | apply Kd.R_drew)); exact Kd.R_mono HO_65.out (fun _ hk => ⟨hk.1.1, hk.1.2⟩)⟩, ⟨by (with_reducible repeat (first | apply Kd.R_alloc | apply Kd.R_drewN | apply Kd.R_drew)); exact Kd.R_mono HO_3002.out (fun _ hk => ⟨hk.1.1, ⟨hk.1.2.1, hk.1.2.2⟩⟩)⟩, ⟨by (with_reducible repeat (first | apply Kd.R_alloc | apply Kd.R_drewN | apply Kd.R_drew)); exact Kd.R_mono HO_3003.out (fun _ hk => ⟨hk.1.1, hk.1.2⟩)⟩, ⟨by (with_reducible repeat (first | refine blk_drewN ?_ _ | refine blk_drew ?_ | refine blk_alloc ?_ _)); exact BK1.out⟩, ⟨by (with_reducible repeat (first | refine blk_drewN ?_ _ | refine blk_drew ?_ | refine blk_alloc ?_ _)); exact BK2.out⟩, ⟨by (with_reducible repeat (first | refine blk_drewN ?_ _ | refine blk_drew ?_ | refine blk_alloc ?_ _)); exact BK3.out⟩, ⟨hbW HB⟩⟩
               ·
                replace c164 := Bool.eq_false_iff.mpr c164
                subst c164
                have H1 : (if x5_1.length < 35184372088832 then (q26z.l0 k1 (x5_1 ++ [rd t9 x67_1]) t9 (t9.length : Int) (wrap64 (x67_1 + 1)) a0_0 a0_1 l0_2 l0_3 t4 t5 t6 t9 t12 t13 t14 t15) else (none)) = some (r1, r2, r3, r4, r5, r6, r7, r8) := by rw [if_neg (show ¬ (false = true) by decide)] at H; exact H
                clear H
                have H := H1
                clear H1
                by_cases c172 : x5_1.length < 35184372088832
                ·
                 rw [if_pos c172] at H
                 have LMc172 := Aside0.mk c172
                 clear c172
                 obtain ⟨y40, hy40⟩ : ∃ y_ : List Int, y_ = (x5_1 ++ [rd t9 x67_1]) := ⟨_, rfl⟩
                 replace H : (q26z.l0 k1 y40 t9 (t9.length : Int) (wrap64 (x67_1 + 1)) a0_0 a0_1 l0_2 l0_3 t4 t5 t6 t9 t12 t13 t14 t15) = some (r1, r2, r3, r4, r5, r6, r7, r8) := by first | (rw [hy40]; with_reducible exact H) | (have H2_ := (Option.bind_some _ _).symm.trans H; rw [hy40]; with_reducible exact H2_) | (have H2_ := (Option.bind_some _ _).symm.trans H; with_reducible exact H2_) | with_reducible exact H | (rw [hy40]; exact H) | exact H
                 have Ny40 := Aside0.mk hy40
                 clear hy40
                 have H' := Aside0.mk H
                 clear H
                 have p35 : 0 ≤ (x67_1 : Int) := of_decide_eq_true (by first | (with_reducible assumption) | assumption)
                 have q35 : x67_1 < (t9.length : Int) := of_decide_eq_true (by first | (with_reducible assumption) | assumption)
                 obtain ⟨ad35, e35, hx35_0⟩ := Kd.at_int (Kd.R_reads' HO_65.out).2.2 x67_1 p35 q35
                 cases e35
                 replace p35 := eq_true p35
                 replace q35 := eq_true q35
                 have hnb173 := NB1_2.out
                 have hnc173 := NB2_1.out
                 have hnb174 := NB1_3.out
                 have hnc174 := NB3_1.out
                 obtain ⟨hcz175_0, hcz175_1, hcz175_2, hcz175_3, hfz175_0, hfz175_1, hfz175_2, hfz175_3⟩ := bc4 BK1
                 go_wp2_with (first | ((with_reducible refine gate_dst (N := 74) rfl ?_); refine Kd.R_lit (Kd.int .u32) _ 22 ?hg (N := 74) ?hd (xs := ([rd t9 x67_1] : List Int)) (inner := [.int .u32 (rd t9 x67_1)]) (ok := fun _ => True) (okp := fun _ => True) ?hr ?hp (fun _ hk => hk) trivial (Below.refl _ _) (Nat.le_refl _) (by simp) ?_; (case hd => rfl); (case hg => rfl); (case hr => first | (go_simp; done) | (go_simp; rfl)); (case hp => exact (Reps.one (show Kd.M (Kd.int .u32) _ _ _ (rd t9 x67_1) [.int .u32 (rd t9 x67_1)] from rfl) (Reps.none _ _))); intro v37 w176 ho177 hb hg_ hnew_; clear hg_ hnew_; (first | rw [← Ny36.out] at ho177 | (simp only [Int.reduceToNat] at ho177; rw [← Ny36.out] at ho177)); have HO38 := Aside0.mk (Kd.R_lower (Kd.R_new' (Kd.R_new' (Kd.R_new' (Kd.R_new' ho177 (Kd.R_lt (rW HO_5))) (Kd.R_lt (rW HO_65))) (Kd.R_lt (rW HO_3002))) (Kd.R_lt (rW HO_3003))) (below_size (hbW HB))); replace HO_5 := Aside0.mk (Kd.R_elder' (rW HO_5) (Kd.R_base ho177) hb); replace HO_65 := Aside0.mk (Kd.R_elder' (rW HO_65) (Kd.R_base ho177) hb); replace HO_3002 := Aside0.mk (Kd.R_elder' (rW HO_3002) (Kd.R_base ho177) hb); replace HO_3003 := Aside0.mk (Kd.R_elder' (rW HO_3003) (Kd.R_base ho177) hb); replace BK1 := bkB BK1 hb; replace BK2 := bkB BK2 hb; replace BK3 := bkB BK3 hb; replace HB := hbS HB hb; clear hb ho177; obtain ⟨Ao178, co178, eo178⟩ := Kd.R_slice HO38.out; subst eo178) | ((with_reducible refine gate_callee (f := 21) rfl ?_); refine goesL_ (some 75) rfl rfl Try.func21 (by kernel_rfl) rfl #[.slice A0_3 l0_3.length c0_3, .slice Ao178 y36.length co178] rfl (by (try simp only [List.map_toArray, List.map_cons, List.map_nil]); first | done | rfl | (simp only [List.length_drop, List.length_take]; rfl)) ?_; (with_reducible refine (q24z.calls k1 _ _ l0_3 _ _ y36 false _ ?side1 ?side2 ?side3 ?side4 A163.out).mono ?_); (case side1 => repeat (first | exact (Kd.C_below HR0_3.out HB.out) | (with_reducible refine Kd.C_alloc ?_ _) | (with_reducible refine Kd.C_drewN ?_ _) | (with_reducible refine Kd.C_drew ?_))); (case side2 => exact HC0_3.out); (case side3 => repeat (first | exact (Kd.R_reads' HO38.out).2.2 | (with_reducible refine Kd.C_alloc ?_ _) | (with_reducible refine Kd.C_drewN ?_ _) | (with_reducible refine Kd.C_drew ?_))); (case side4 => exact (Kd.R_reads' HO38.out).2.1); rintro e w179 ⟨rfl, hb⟩; refine ⟨_, rfl, ?_⟩; replace HO_5 := Aside0.mk (Kd.R_below (rW HO_5) hb); replace HO_65 := Aside0.mk (Kd.R_below (rW HO_65) hb); replace HO_3002 := Aside0.mk (Kd.R_below (rW HO_3002) hb); replace HO_3003 := Aside0.mk (Kd.R_below (rW HO_3003) hb); replace HO38 := Aside0.mk (Kd.R_below (rW HO38) hb); replace BK1 := bkB BK1 hb; replace BK2 := bkB BK2 hb; replace BK3 := bkB BK3 hb; replace HB := hbS HB hb; (try clear hb); (try clear hk)) | ((with_reducible refine gate_builtin (b := .append) (xs := #[.tmp 77, .tmp 79]) rfl ?_); at_builtin; refine Kd.R_append (Kd.int .u32) (w0 := w) w.heap.size rfl (.tmp 77) (.tmp 79) 23 22 (.int .u32 0) 4 rfl Try.underlying23 info22 rfl (by decide) (by omega) u5 x5_1 (rd t9 x67_1) [.int .u32 (rd t9 x67_1)] (fun k_ => some k_ ≠ (.slice (some ad35) t9.length co16 : Value).ownBlock ∧ some k_ ≠ (.slice Ao15 t6.length co15 : Value).ownBlock ∧ some k_ ≠ (.slice (some ad35) t9.length co16 : Value).ownBlock ∧ some k_ ≠ (.slice Ao178 y36.length co178 : Value).ownBlock) (fun _ => False) rfl rfl ?aP (fun _ hk => hk.elim) ?aF ?aO ?aB ?aS ?aL ?_; (case aP => exact rfl); (case aB => exact (hbW HB)); (case aF => exact (fun k_ hk => ⟨Kd.fresh' (Kd.R_lt (rW HO_65)) k_ hk, Kd.fresh' (Kd.R_lt (rW HO_3002)) k_ hk, Kd.fresh' (Kd.R_lt (rW HO_3003)) k_ hk, Kd.fresh' (Kd.R_lt (rW HO38)) k_ hk⟩)); (case aO => exact (by (with_reducible repeat (first | apply Kd.R_alloc | apply Kd.R_drewN | apply Kd.R_drew)); exact Kd.R_mono HO_5.out (fun _ hk => ⟨hk.1.1, ⟨hk.1.2.1, ⟨hk.1.2.2, hk.2⟩⟩⟩))); (case aS => exact (below_size (hbW HB))); (case aL => have := LMc172.out; omega); intro v41 w180 ho hb hg hat; rw [← Ny40.out] at ho; have n0_ := Aside0.mk (Kd.R_after (ok := (fun k_ => some k_ ≠ (.slice Ao15 t6.length co15 : Value).ownBlock ∧ some k_ ≠ (.slice Ao178 y36.length co178 : Value).ownBlock)) (by (with_reducible repeat (first | apply Kd.R_alloc | apply Kd.R_drewN | apply Kd.R_drew)); exact Kd.R_mono HO_65.out (fun _ hk => ⟨⟨hk.1.2, hk.2⟩, hk.1.1⟩)) hg hat); have n1_ := Aside0.mk (Kd.R_after (ok := (fun k_ => some k_ ≠ (.slice (some ad35) t9.length co16 : Value).ownBlock ∧ some k_ ≠ (.slice (some ad35) t9.length co16 : Value).ownBlock ∧ some k_ ≠ (.slice Ao178 y36.length co178 : Value).ownBlock)) (by (with_reducible repeat (first | apply Kd.R_alloc | apply Kd.R_drewN | apply Kd.R_drew)); exact Kd.R_mono HO_3002.out (fun _ hk => ⟨⟨hk.1.2.1, ⟨hk.1.2.2, hk.2⟩⟩, hk.1.1⟩)) hg hat); have n2_ := Aside0.mk (Kd.R_after (ok := (fun k_ => some k_ ≠ (.slice Ao15 t6.length co15 : Value).ownBlock ∧ some k_ ≠ (.slice Ao178 y36.length co178 : Value).ownBlock)) (by (with_reducible repeat (first | apply Kd.R_alloc | apply Kd.R_drewN | apply Kd.R_drew)); exact Kd.R_mono HO_3003.out (fun _ hk => ⟨⟨hk.1.2, hk.2⟩, hk.1.1⟩)) hg hat); have n3_ := Aside0.mk (blk_grown (g := gb1) (o := .cells #[.int .i64 a0_0, .int .u32 a0_1, .slice A0_2 l0_2.length c0_2, .slice A0_3 l0_3.length c0_3] 26 (0, 0)) (bkW BK1) hg (Kd.R_ne HO_5.out BK1.out (by decide))); have n4_ := Aside0.mk (blk_grown (g := gb2) (o := .cells #[.int .u32 t4, .int .i64 t5, .slice Ao15 t6.length co15, .slice (some ad35) t9.length co16, .int .u32 t12, .int .u32 t13, .int .i64 t14, .int .u32 t15] 30 (0, 0)) (bkW BK2) hg (Kd.R_ne HO_5.out BK2.out (by decide))); have n5_ := Aside0.mk (blk_grown (g := gb3) (o := .cells #[.int .u32 0, .int .i64 0, .slice none 0 0, .slice none 0 0, .int .u32 0, .int .u32 0, .int .i64 0, .int .u32 0] 30 (0, 0)) (bkW BK3) hg (Kd.R_ne HO_5.out BK3.out (by decide))); have n6_ := Aside0.mk (Kd.R_after (ok := (fun k_ => some k_ ≠ (.slice (some ad35) t9.length co16 : Value).ownBlock ∧ some k_ ≠ (.slice Ao15 t6.length co15 : Value).ownBlock ∧ some k_ ≠ (.slice (some ad35) t9.length co16 : Value).ownBlock)) (by (with_reducible repeat (first | apply Kd.R_alloc | apply Kd.R_drewN | apply Kd.R_drew)); exact Kd.R_mono HO38.out (fun _ hk => ⟨⟨hk.1.1.2, ⟨hk.1.2, hk.2⟩⟩, hk.1.1.1.2⟩)) hg hat); have n7_ := Aside0.mk (hb); have n8_ := Aside0.mk (ho); clear HO_65; clear HO_3002; clear HO_3003; clear BK1; clear BK2; clear BK3; clear HO38; clear HB; clear HO_5; have HO_65 := n0_; have HO_3002 := n1_; have HO_3003 := n2_; have BK1 := n3_; have BK2 := n4_; have BK3 := n5_; have HO38 := n6_; have HB := n7_; have HO42 := n8_; clear n0_ n1_ n2_ n3_ n4_ n5_ n6_ n7_ n8_; clear ho hb hg hat))
                 go_roundg k1
                 case measure => have := HK1.out; omega
                 case rel => exact ⟨(y40), (wrap64 (x67_1 + 1)), (by first | rfl | (simp; done) | (simp [*]; done)), H', ⟨by have := HK1.out; omega⟩, ⟨by (with_reducible repeat (first | apply Kd.R_alloc | apply Kd.R_drewN | apply Kd.R_drew)); exact Kd.R_mono HO42.out (fun _ hk => ⟨hk.1, ⟨hk.2.1, hk.2.2.1⟩⟩)⟩, ⟨by (with_reducible repeat (first | apply Kd.R_alloc | apply Kd.R_drewN | apply Kd.R_drew)); exact Kd.R_mono HO_65.out (fun _ hk => ⟨hk.2, hk.1.1⟩)⟩, ⟨by (with_reducible repeat (first | apply Kd.R_alloc | apply Kd.R_drewN | apply Kd.R_drew)); exact Kd.R_mono HO_3002.out (fun _ hk => ⟨hk.2, ⟨hk.1.1, hk.1.2.1⟩⟩)⟩, ⟨by (with_reducible repeat (first | apply Kd.R_alloc | apply Kd.R_drewN | apply Kd.R_drew)); exact Kd.R_mono HO_3003.out (fun _ hk => ⟨hk.2, hk.1.1⟩)⟩, ⟨by (with_reducible repeat (first | refine blk_drewN ?_ _ | refine blk_drew ?_ | refine blk_alloc ?_ _)); exact BK1.out⟩, ⟨by (with_reducible repeat (first | refine blk_drewN ?_ _ | refine blk_drew ?_ | refine blk_alloc ?_ _)); exact BK2.out⟩, ⟨by (with_reducible repeat (first | refine blk_drewN ?_ _ | refine blk_drew ?_ | refine blk_alloc ?_ _)); exact BK3.out⟩, ⟨hbW HB⟩⟩
                ·
                 rw [if_neg c172] at H
                 exact absurd H (by simp)
              ·
               rw [if_neg c162] at H
               exact absurd H (by simp)
             ·
              rw [if_neg c161] at H
              exact absurd H (by simp)
            ·
             rw [if_neg c160] at H
             have c160b0 : decide (x67_1 < (t9.length : Int)) = false := decide_eq_false c160
             clear c160
             replace H := Option.bind_eq_some_iff.mp H
             obtain ⟨t43, A1810, H⟩ := H
             replace H : (some (t4, t5, t6, t43, t12, t13, t14, t15)) = some (r1, r2, r3, r4, r5, r6, r7, r8) := H
             have A181 := Aside0.mk A1810
             clear A1810
             simp only [Option.some.injEq, Prod.mk.injEq] at H
             obtain ⟨rfl, rfl, rfl, rfl, rfl, rfl, rfl, rfl⟩ := H
             obtain ⟨Ao182, co182, eo182⟩ := Kd.R_slice HO_5.out
             subst eo182
             go_wp2_with (first | ((with_reducible refine gate_callee (f := 37) rfl ?_); refine goesL_ (some 83) rfl rfl Try.func37 (by kernel_rfl) rfl #[.slice Ao182 x5_1.length co182] rfl (by (try simp only [List.map_toArray, List.map_cons, List.map_nil]); first | done | rfl | (simp only [List.length_drop, List.length_take]; rfl)) ?_; (with_reducible refine (q25z.calls k1 _ _ x5_1 t43 _ ?side1 ?side2 A181.out).mono ?_); (case side1 => repeat (first | exact (Kd.R_reads' HO_5.out).2.2 | (with_reducible refine Kd.C_alloc ?_ _) | (with_reducible refine Kd.C_drewN ?_ _) | (with_reducible refine Kd.C_drew ?_))); (case side2 => exact (Kd.R_reads' HO_5.out).2.1); rintro e w183 ⟨v44, rfl, ho0, hb⟩; refine ⟨_, rfl, ?_⟩; have HO45 := Aside0.mk (Kd.R_lower (Kd.R_new' (Kd.R_new' (Kd.R_new' (Kd.R_new' ho0 (Kd.R_lt (rW HO_5))) (Kd.R_lt (rW HO_65))) (Kd.R_lt (rW HO_3002))) (Kd.R_lt (rW HO_3003))) (below_size (hbW HB))); replace HO_5 := Aside0.mk (Kd.R_elder' (rW HO_5) (Kd.R_base ho0) hb); replace HO_65 := Aside0.mk (Kd.R_elder' (rW HO_65) (Kd.R_base ho0) hb); replace HO_3002 := Aside0.mk (Kd.R_elder' (rW HO_3002) (Kd.R_base ho0) hb); replace HO_3003 := Aside0.mk (Kd.R_elder' (rW HO_3003) (Kd.R_base ho0) hb); replace BK1 := bkB BK1 hb; replace BK2 := bkB BK2 hb; replace BK3 := bkB BK3 hb; replace HB := hbS HB hb; (try clear hb); (try clear ho0); obtain ⟨Ao184, co184, eo184⟩ := Kd.R_slice HO45.out; subst eo184; have hnb185 := NB2_1.out; have hnc185 := NB1_2.out; have hnb186 := NB2_3.out; have hnc186 := NB3_2.out; obtain ⟨hcz187_0, hcz187_1, hcz187_2, hcz187_3, hcz187_4, hcz187_5, hcz187_6, hcz187_7, hfz187_0, hfz187_1, hfz187_2, hfz187_3, hfz187_4, hfz187_5, hfz187_6, hfz187_7⟩ := bc8 BK2; have hnb188 := NB3_1.out; have hnc188 := NB1_3.out; obtain ⟨hcz189_0, hcz189_1, hcz189_2, hcz189_3, hcz189_4, hcz189_5, hcz189_6, hcz189_7, hfz189_0, hfz189_1, hfz189_2, hfz189_3, hfz189_4, hfz189_5, hfz189_6, hfz189_7⟩ := bc8 BK3))
             refine bodyPost_ret (results_cell_row rfl _ _ gb3 30 #[.int .u32 t4, .int .i64 t5, .slice Ao15 t6.length co15, .slice Ao184 t43.length co184, .int .u32 t12, .int .u32 t13, .int .i64 t14, .int .u32 t15] (0, 0) _ rfl (bp8 BK3) Try.underlying30 rfl (by kernel_rfl)) rfl ?_
             exact ⟨_, _, by first | rfl | (simp [errW_none, errW_some] <;> rfl) | (simp [*, errW_none, errW_some] <;> rfl), by (with_reducible repeat (first | apply Kd.R_alloc | apply Kd.R_drewN | apply Kd.R_drew)); exact Kd.R_mono (Kd.R_far (p := ⟨gb3, 7, none⟩) (Kd.R_far (p := ⟨gb3, 6, none⟩) (Kd.R_far (p := ⟨gb3, 5, none⟩) (Kd.R_far (p := ⟨gb3, 4, none⟩) (Kd.R_far (p := ⟨gb3, 3, none⟩) (Kd.R_far (p := ⟨gb3, 2, none⟩) (Kd.R_far (p := ⟨gb3, 1, none⟩) (Kd.R_far (p := ⟨gb3, 0, none⟩) (Kd.R_far (p := ⟨gb2, 3, none⟩) (Kd.R_types (Kd.R_types HO_3002.out BK2.out (by decide)) BK3.out (by decide)) (fun _ hk => hk.1.2) (.slice Ao184 t43.length co184)) (fun _ hk => hk.2) (.int .u32 t4)) (fun _ hk => hk.2) (.int .i64 t5)) (fun _ hk => hk.2) (.slice Ao15 t6.length co15)) (fun _ hk => hk.2) (.slice Ao184 t43.length co184)) (fun _ hk => hk.2) (.int .u32 t12)) (fun _ hk => hk.2) (.int .u32 t13)) (fun _ hk => hk.2) (.int .i64 t14)) (fun _ hk => hk.2) (.int .u32 t15)) (fun _ hk => hk.1.1.2), by (with_reducible repeat (first | apply Kd.R_alloc | apply Kd.R_drewN | apply Kd.R_drew)); exact Kd.R_mono (Kd.R_far (p := ⟨gb3, 7, none⟩) (Kd.R_far (p := ⟨gb3, 6, none⟩) (Kd.R_far (p := ⟨gb3, 5, none⟩) (Kd.R_far (p := ⟨gb3, 4, none⟩) (Kd.R_far (p := ⟨gb3, 3, none⟩) (Kd.R_far (p := ⟨gb3, 2, none⟩) (Kd.R_far (p := ⟨gb3, 1, none⟩) (Kd.R_far (p := ⟨gb3, 0, none⟩) (Kd.R_far (p := ⟨gb2, 3, none⟩) (Kd.R_types (Kd.R_types HO45.out BK2.out (by decide)) BK3.out (by decide)) (fun _ hk => hk.1.2) (.slice Ao184 t43.length co184)) (fun _ hk => hk.2) (.int .u32 t4)) (fun _ hk => hk.2) (.int .i64 t5)) (fun _ hk => hk.2) (.slice Ao15 t6.length co15)) (fun _ hk => hk.2) (.slice Ao184 t43.length co184)) (fun _ hk => hk.2) (.int .u32 t12)) (fun _ hk => hk.2) (.int .u32 t13)) (fun _ hk => hk.2) (.int .i64 t14)) (fun _ hk => hk.2) (.int .u32 t15)) (fun _ hk => hk.1.1.1.2), hbW HB⟩
         ·
          rw [if_neg c144] at H
          have c144b0 : (a0_0 == 8) = false := beq_eq_false_iff_ne.mpr c144
          have c144b1 : (a0_0 != 8) = true := bne_iff_ne.mpr c144
          simp only [Option.some.injEq, Prod.mk.injEq] at H
          obtain ⟨rfl, rfl, rfl, rfl, rfl, rfl, rfl, rfl⟩ := H
          go_wp2
          refine bodyPost_ret (results_cell_row rfl _ _ gb3 30 #[.int .u32 t4, .int .i64 t5, .slice Ao15 t6.length co15, .slice Ao16 t9.length co16, .int .u32 t12, .int .u32 t13, .int .i64 t14, .int .u32 t15] (0, 0) _ rfl (bp8 BK3) Try.underlying30 rfl (by kernel_rfl)) rfl ?_
          exact ⟨_, _, by first | rfl | (simp [errW_none, errW_some] <;> rfl) | (simp [*, errW_none, errW_some] <;> rfl), by (with_reducible repeat (first | apply Kd.R_alloc | apply Kd.R_drewN | apply Kd.R_drew)); exact Kd.R_mono (Kd.R_far (p := ⟨gb3, 7, none⟩) (Kd.R_far (p := ⟨gb3, 6, none⟩) (Kd.R_far (p := ⟨gb3, 5, none⟩) (Kd.R_far (p := ⟨gb3, 4, none⟩) (Kd.R_far (p := ⟨gb3, 3, none⟩) (Kd.R_far (p := ⟨gb3, 2, none⟩) (Kd.R_far (p := ⟨gb3, 1, none⟩) (Kd.R_far (p := ⟨gb3, 0, none⟩) (Kd.R_types HO8.out BK3.out (by decide)) (fun _ hk => hk.2) (.int .u32 t4)) (fun _ hk => hk.2) (.int .i64 t5)) (fun _ hk => hk.2) (.slice Ao15 t6.length co15)) (fun _ hk => hk.2) (.slice Ao16 t9.length co16)) (fun _ hk => hk.2) (.int .u32 t12)) (fun _ hk => hk.2) (.int .u32 t13)) (fun _ hk => hk.2) (.int .i64 t14)) (fun _ hk => hk.2) (.int .u32 t15)) (fun _ hk => hk.1), by (with_reducible repeat (first | apply Kd.R_alloc | apply Kd.R_drewN | apply Kd.R_drew)); exact Kd.R_mono (Kd.R_far (p := ⟨gb3, 7, none⟩) (Kd.R_far (p := ⟨gb3, 6, none⟩) (Kd.R_far (p := ⟨gb3, 5, none⟩) (Kd.R_far (p := ⟨gb3, 4, none⟩) (Kd.R_far (p := ⟨gb3, 3, none⟩) (Kd.R_far (p := ⟨gb3, 2, none⟩) (Kd.R_far (p := ⟨gb3, 1, none⟩) (Kd.R_far (p := ⟨gb3, 0, none⟩) (Kd.R_types HO11.out BK3.out (by decide)) (fun _ hk => hk.2) (.int .u32 t4)) (fun _ hk => hk.2) (.int .i64 t5)) (fun _ hk => hk.2) (.slice Ao15 t6.length co15)) (fun _ hk => hk.2) (.slice Ao16 t9.length co16)) (fun _ hk => hk.2) (.int .u32 t12)) (fun _ hk => hk.2) (.int .u32 t13)) (fun _ hk => hk.2) (.int .i64 t14)) (fun _ hk => hk.2) (.int .u32 t15)) (fun _ hk => hk.1), hbW HB⟩
 ·
  replace c5 := Bool.eq_false_iff.mpr c5
  subst c5
  have H1 : (some (t4, t5, t6, t9, t12, t13, t14, t15)) = some (r1, r2, r3, r4, r5, r6, r7, r8) := by rw [if_neg (show ¬ (false = true) by decide)] at H; exact H
  clear H
  have H := H1
  clear H1
  simp only [Option.some.injEq, Prod.mk.injEq] at H
  obtain ⟨rfl, rfl, rfl, rfl, rfl, rfl, rfl, rfl⟩ := H
  go_enter Try.func17, Try.ntmps17
  go_wp2_with (first | ((with_reducible refine gate_dst (N := 2) rfl ?_); refine box_event ?hg (N := 2) ?hd (cs := #[.int .i64 a0_0, .int .u32 a0_1, .slice A0_2 l0_2.length c0_2, .slice A0_3 l0_3.length c0_3]) (t := 26) ?hr ?_; (case hd => rfl); (case hg => rfl); (case hr => first | (go_simp; done) | (go_simp; rfl)); intro gb1 hg w206 hbox hb; have BK1 := Aside0.mk (hbox); have GW1 := Aside0.mk ((by rw [hg]; exact (below_size (hbW HB)) : w.heap.size ≤ gb1)); have GE1 := Aside0.mk ((by rw [hg]; exact (below_size (hbW HB)) : w.heap.size ≤ gb1)); replace HB := hbS HB hb; clear hb hbox hg) | ((with_reducible refine gate_dst (N := 3) rfl ?_); refine box_event ?hg (N := 3) ?hd (cs := #[.int .u32 a1_0, .int .i64 a1_1, .slice A1_2 l1_2.length c1_2, .slice A1_3 l1_3.length c1_3, .int .u32 a1_4, .int .u32 a1_5, .int .i64 a1_6, .int .u32 a1_7]) (t := 30) ?hr ?_; (case hd => rfl); (case hg => rfl); (case hr => first | (go_simp; done) | (go_simp; rfl)); intro gb2 hg w207 hbox hb; have BK2 := Aside0.mk (hbox); have GW2 := Aside0.mk ((by rw [hg]; exact (below_size (hbW HB)) : w.heap.size ≤ gb2)); have GE2 := Aside0.mk ((by rw [hg]; exact (below_size (hbW HB)) : w.heap.size ≤ gb2)); have NB1_2 := Aside0.mk ((by rw [hg]; exact Nat.ne_of_lt (blk_lt (bkW BK1)) : gb1 ≠ gb2)); have NB2_1 := Aside0.mk ((by rw [hg]; exact Nat.ne_of_gt (blk_lt (bkW BK1)) : gb2 ≠ gb1)); replace BK1 := bkB BK1 hb; replace HB := hbS HB hb; clear hb hbox hg) | ((with_reducible refine gate_dst (N := 4) rfl ?_); refine box_event ?hg (N := 4) ?hd (cs := #[.int .u32 0, .int .i64 0, .slice none 0 0, .slice none 0 0, .int .u32 0, .int .u32 0, .int .i64 0, .int .u32 0]) (t := 30) ?hr ?_; (case hd => rfl); (case hg => rfl); (case hr => first | (go_simp; done) | (go_simp; rfl)); intro gb3 hg w208 hbox hb; have BK3 := Aside0.mk (hbox); have GW3 := Aside0.mk ((by rw [hg]; exact (below_size (hbW HB)) : w.heap.size ≤ gb3)); have GE3 := Aside0.mk ((by rw [hg]; exact (below_size (hbW HB)) : w.heap.size ≤ gb3)); have NB1_3 := Aside0.mk ((by rw [hg]; exact Nat.ne_of_lt (blk_lt (bkW BK1)) : gb1 ≠ gb3)); have NB3_1 := Aside0.mk ((by rw [hg]; exact Nat.ne_of_gt (blk_lt (bkW BK1)) : gb3 ≠ gb1)); have NB2_3 := Aside0.mk ((by rw [hg]; exact Nat.ne_of_lt (blk_lt (bkW BK2)) : gb2 ≠ gb3)); have NB3_2 := Aside0.mk ((by rw [hg]; exact Nat.ne_of_gt (blk_lt (bkW BK2)) : gb3 ≠ gb2)); replace BK1 := bkB BK1 hb; replace BK2 := bkB BK2 hb; replace HB := hbS HB hb; clear hb hbox hg; have hnb209 := NB2_1.out; have hnc209 := NB1_2.out; have hnb210 := NB2_3.out; have hnc210 := NB3_2.out; obtain ⟨hcz211_0, hcz211_1, hcz211_2, hcz211_3, hcz211_4, hcz211_5, hcz211_6, hcz211_7, hfz211_0, hfz211_1, hfz211_2, hfz211_3, hfz211_4, hfz211_5, hfz211_6, hfz211_7⟩ := bc8 BK2) | ((with_reducible refine gate_callee (f := 12) rfl ?_); refine goesL_ (some 9) rfl rfl Try.func12 (by kernel_rfl) rfl #[.agg #[.int .u32 a1_0, .int .i64 a1_1, .slice A1_2 l1_2.length c1_2, .slice A1_3 l1_3.length c1_3, .int .u32 a1_4, .int .u32 a1_5, .int .i64 a1_6, .int .u32 a1_7]] rfl (by (try simp only [List.map_toArray, List.map_cons, List.map_nil]); first | done | rfl | (simp only [List.length_drop, List.length_take]; rfl)) ?_; (with_reducible refine (q2z.calls a1_0 a1_1 _ _ l1_2 _ _ l1_3 a1_4 a1_5 a1_6 a1_7 t4 t5 t6 t9 t12 t13 t14 t15 _ ?side1 ?side2 ?side3 ?side4 A3.out).mono ?_); (case side1 => repeat (first | exact (Kd.C_below HR1_2.out HB.out) | (with_reducible refine Kd.C_alloc ?_ _) | (with_reducible refine Kd.C_drewN ?_ _) | (with_reducible refine Kd.C_drew ?_))); (case side2 => exact HC1_2.out); (case side3 => repeat (first | exact (Kd.C_below HR1_3.out HB.out) | (with_reducible refine Kd.C_alloc ?_ _) | (with_reducible refine Kd.C_drewN ?_ _) | (with_reducible refine Kd.C_drew ?_))); (case side4 => exact HC1_3.out); rintro e w212 ⟨v7, v10, rfl, ho0, ho1, hb⟩; refine ⟨_, rfl, ?_⟩; have HO8 := Aside0.mk (Kd.R_lower ho0 (below_size (hbW HB))); have HO11 := Aside0.mk (Kd.R_lower ho1 (below_size (hbW HB))); replace BK1 := bkB BK1 hb; replace BK2 := bkB BK2 hb; replace BK3 := bkB BK3 hb; replace HB := hbS HB hb; (try clear hb); (try clear ho0); (try clear ho1); obtain ⟨hcz213_0, hcz213_1, hcz213_2, hcz213_3, hcz213_4, hcz213_5, hcz213_6, hcz213_7, hfz213_0, hfz213_1, hfz213_2, hfz213_3, hfz213_4, hfz213_5, hfz213_6, hfz213_7⟩ := bc8 BK2; obtain ⟨Ao214, co214, eo214⟩ := Kd.R_slice HO8.out; subst eo214; obtain ⟨Ao215, co215, eo215⟩ := Kd.R_slice HO11.out; subst eo215; have hnb216 := NB1_3.out; have hnc216 := NB3_1.out; obtain ⟨hcz217_0, hcz217_1, hcz217_2, hcz217_3, hfz217_0, hfz217_1, hfz217_2, hfz217_3⟩ := bc4 BK1) | ((with_reducible refine gate_callee (f := 15) rfl ?_); refine goesL_ (some 11) rfl rfl Try.func15 (by kernel_rfl) rfl #[.agg #[.int .i64 a0_0, .int .u32 a0_1, .slice A0_2 l0_2.length c0_2, .slice A0_3 l0_3.length c0_3]] rfl (by (try simp only [List.map_toArray, List.map_cons, List.map_nil]); first | done | rfl | (simp only [List.length_drop, List.length_take]; rfl)) ?_; (with_reducible refine (q21z.calls k a0_0 a0_1 _ _ l0_2 _ _ l0_3 false _ ?side1 ?side2 ?side3 ?side4 A4.out).mono ?_); (case side1 => exact Kd.C_below HR0_2.out (hbW HB)); (case side2 => exact HC0_2.out); (case side3 => exact Kd.C_below HR0_3.out (hbW HB)); (case side4 => exact HC0_3.out); rintro e w218 ⟨rfl, hb⟩; refine ⟨_, rfl, ?_⟩; replace HO8 := Aside0.mk (Kd.R_below (rW HO8) hb); replace HO11 := Aside0.mk (Kd.R_below (rW HO11) hb); replace BK1 := bvB BK1 hb; replace BK2 := Aside0.mk (blk_below (g := gb2) (o := .cells #[.int .u32 t4, .int .i64 t5, .slice Ao214 t6.length co214, .slice Ao215 t9.length co215, .int .u32 t12, .int .u32 t13, .int .i64 t14, .int .u32 t15] 30 (0, 0)) (bp8 BK2) hb); replace BK3 := bvB BK3 hb; replace HB := hbS HB hb; (try clear hb); obtain ⟨hcz219_0, hcz219_1, hcz219_2, hcz219_3, hcz219_4, hcz219_5, hcz219_6, hcz219_7, hfz219_0, hfz219_1, hfz219_2, hfz219_3, hfz219_4, hfz219_5, hfz219_6, hfz219_7⟩ := bc8 BK2; obtain ⟨hcz220_0, hcz220_1, hcz220_2, hcz220_3, hcz220_4, hcz220_5, hcz220_6, hcz220_7, hfz220_0, hfz220_1, hfz220_2, hfz220_3, hfz220_4, hfz220_5, hfz220_6, hfz220_7⟩ := bc8 BK3))
  refine bodyPost_ret (results_cell_row rfl _ _ gb3 30 #[.int .u32 t4, .int .i64 t5, .slice Ao214 t6.length co214, .slice Ao215 t9.length co215, .int .u32 t12, .int .u32 t13, .int .i64 t14, .int .u32 t15] (0, 0) _ rfl (bp8 BK3) Try.underlying30 rfl (by kernel_rfl)) rfl ?_
  exact ⟨_, _, by first | rfl | (simp [errW_none, errW_some] <;> rfl) | (simp [*, errW_none, errW_some] <;> rfl), by (with_reducible repeat (first | apply Kd.R_alloc | apply Kd.R_drewN | apply Kd.R_drew)); exact Kd.R_mono (Kd.R_far (p := ⟨gb3, 7, none⟩) (Kd.R_far (p := ⟨gb3, 6, none⟩) (Kd.R_far (p := ⟨gb3, 5, none⟩) (Kd.R_far (p := ⟨gb3, 4, none⟩) (Kd.R_far (p := ⟨gb3, 3, none⟩) (Kd.R_far (p := ⟨gb3, 2, none⟩) (Kd.R_far (p := ⟨gb3, 1, none⟩) (Kd.R_far (p := ⟨gb3, 0, none⟩) (Kd.R_types HO8.out BK3.out (by decide)) (fun _ hk => hk.2) (.int .u32 t4)) (fun _ hk => hk.2) (.int .i64 t5)) (fun _ hk => hk.2) (.slice Ao214 t6.length co214)) (fun _ hk => hk.2) (.slice Ao215 t9.length co215)) (fun _ hk => hk.2) (.int .u32 t12)) (fun _ hk => hk.2) (.int .u32 t13)) (fun _ hk => hk.2) (.int .i64 t14)) (fun _ hk => hk.2) (.int .u32 t15)) (fun _ hk => hk.1), by (with_reducible repeat (first | apply Kd.R_alloc | apply Kd.R_drewN | apply Kd.R_drew)); exact Kd.R_mono (Kd.R_far (p := ⟨gb3, 7, none⟩) (Kd.R_far (p := ⟨gb3, 6, none⟩) (Kd.R_far (p := ⟨gb3, 5, none⟩) (Kd.R_far (p := ⟨gb3, 4, none⟩) (Kd.R_far (p := ⟨gb3, 3, none⟩) (Kd.R_far (p := ⟨gb3, 2, none⟩) (Kd.R_far (p := ⟨gb3, 1, none⟩) (Kd.R_far (p := ⟨gb3, 0, none⟩) (Kd.R_types HO11.out BK3.out (by decide)) (fun _ hk => hk.2) (.int .u32 t4)) (fun _ hk => hk.2) (.int .i64 t5)) (fun _ hk => hk.2) (.slice Ao214 t6.length co214)) (fun _ hk => hk.2) (.slice Ao215 t9.length co215)) (fun _ hk => hk.2) (.int .u32 t12)) (fun _ hk => hk.2) (.int .u32 t13)) (fun _ hk => hk.2) (.int .i64 t14)) (fun _ hk => hk.2) (.int .u32 t15)) (fun _ hk => hk.1), hbW HB⟩

end Go.Proofs.Ytgelpccjdndfoaa.P

namespace Go.Proofs.Ytgelpccjdndfoaa.P
open Go.RowKit Go.Proofs.YtgelpccjdndfoaaW.PrintWords Go.Proofs.YtgelpccjdndfoaaW.PrintLast Go.Proofs.YtgelpccjdndfoaaW.PrintMore
attribute [local go_sem] max2_int min2_int max_two min_two max_three min_three max_four min_four
set_option linter.unusedVariables false
set_option linter.unusedSimpArgs false

/-! ### dragomanref12_All: function 23 -/
def q27z.l0 : Nat → List (S26) → Int → Int → Int → Int → List Int → List Int → Int → Int → Int → Int → Option (Int × Int × List Int × List Int × Int × Int × Int × Int)
 | 0, _, _, _, _, _, _, _, _, _, _, _ => none
 | k + 1, x9, x10, x11, x2000, x2001, x2002, x2003, x2004, x2005, x2006, x2007 => if x11 < x10 then (if 0 ≤ x11 then (if x11 < (x9.length : Int) then ((q26z.f k ((rd_T26 x9 x11).f0) ((rd_T26 x9 x11).f1) ((rd_T26 x9 x11).f2) ((rd_T26 x9 x11).f3) x2000 x2001 x2002 x2003 x2004 x2005 x2006 x2007).bind fun bt17 => (q27z.l0 k x9 x10 (wrap64 (x11 + 1)) bt17.1 bt17.2.1 bt17.2.2.1 bt17.2.2.2.1 bt17.2.2.2.2.1 bt17.2.2.2.2.2.1 bt17.2.2.2.2.2.2.1 bt17.2.2.2.2.2.2.2)) else (none)) else (none)) else (some (x2000, x2001, x2002, x2003, x2004, x2005, x2006, x2007))
def q27z.f (k : Nat) (l0 : List (S26)) (a1_0 : Int) (a1_1 : Int) (l1_2 : List Int) (l1_3 : List Int) (a1_4 : Int) (a1_5 : Int) (a1_6 : Int) (a1_7 : Int) : Option (Int × Int × List Int × List Int × Int × Int × Int × Int) := (q2z.f a1_0 a1_1 l1_2 l1_3 a1_4 a1_5 a1_6 a1_7).bind fun bt3 => (q27z.l0 k l0 (l0.length : Int) 0 bt3.1 bt3.2.1 bt3.2.2.1 bt3.2.2.2.1 bt3.2.2.2.2.1 bt3.2.2.2.2.2.1 bt3.2.2.2.2.2.2.1 bt3.2.2.2.2.2.2.2)
theorem q27z.mono_l : ∀ k, (∀ y0 y1 y2 y3 y4 y5 y6 y7 y8 y9 y10, LeO (q27z.l0 k y0 y1 y2 y3 y4 y5 y6 y7 y8 y9 y10) (q27z.l0 (k + 1) y0 y1 y2 y3 y4 y5 y6 y7 y8 y9 y10))
 | 0 => fun _ _ _ _ _ _ _ _ _ _ _ r h => by simp [q27z.l0] at h
 | k + 1 => by
  have ih0 := q27z.mono_l k
  ·
   intro y0 y1 y2 y3 y4 y5 y6 y7 y8 y9 y10
   unfold q27z.l0
   repeat' first
   | (with_reducible exact ih0 _ _ _ _ _ _ _ _ _ _ _)
   | (with_reducible exact q26z.mono _ _ _ _ _ _ _ _ _ _ _ _ _)
   | (with_reducible exact LeO.refl _)
   | (with_reducible exact LeO.none _)
   | (with_reducible refine LeO.ite ?_ ?_)
   | (with_reducible refine LeO.bind ?_ (fun _ => ?_))
   | exact ih0 _ _ _ _ _ _ _ _ _ _ _
   | exact q26z.mono _ _ _ _ _ _ _ _ _ _ _ _ _
   | exact LeO.none _
   | refine LeO.ite ?_ ?_
   | refine LeO.bind ?_ (fun _ => ?_)
theorem q27z.mono : ∀ a0 a1 a2 a3 a4 a5 a6 a7 a8 k, LeO (q27z.f k a0 a1 a2 a3 a4 a5 a6 a7 a8) (q27z.f (k + 1) a0 a1 a2 a3 a4 a5 a6 a7 a8) := by
 intro a0 a1 a2 a3 a4 a5 a6 a7 a8 k
 have ih0 := q27z.mono_l k
 unfold q27z.f
 repeat' first
   | (with_reducible exact ih0 _ _ _ _ _ _ _ _ _ _ _)
   | (with_reducible exact q26z.mono _ _ _ _ _ _ _ _ _ _ _ _ _)
   | (with_reducible exact LeO.refl _)
   | (with_reducible exact LeO.none _)
   | (with_reducible refine LeO.ite ?_ ?_)
   | (with_reducible refine LeO.bind ?_ (fun _ => ?_))
   | exact ih0 _ _ _ _ _ _ _ _ _ _ _
   | exact q26z.mono _ _ _ _ _ _ _ _ _ _ _ _ _
   | exact LeO.none _
   | refine LeO.ite ?_ ?_
   | refine LeO.bind ?_ (fun _ => ?_)
set_option maxHeartbeats 8000000 in
set_option maxRecDepth 100000 in
theorem q27z.calls (k : Nat) (A0 : Option Addr) (c0 : Nat) (l0 : List (S26)) (a1_0 : Int) (a1_1 : Int) (A1_2 : Option Addr) (c1_2 : Nat) (l1_2 : List Int) (A1_3 : Option Addr) (c1_3 : Nat) (l1_3 : List Int) (a1_4 : Int) (a1_5 : Int) (a1_6 : Int) (a1_7 : Int) (r1 : Int) (r2 : Int) (r3 : List Int) (r4 : List Int) (r5 : Int) (r6 : Int) (r7 : Int) (r8 : Int) (w : World) (hr0 : Kd.C k26 w A0 l0.length l0) (hc0 : l0.length ≤ c0) (hr1_2 : Kd.C (Kd.int .u32) w A1_2 l1_2.length l1_2) (hc1_2 : l1_2.length ≤ c1_2) (hr1_3 : Kd.C (Kd.int .u32) w A1_3 l1_3.length l1_3) (hc1_3 : l1_3.length ≤ c1_3) (h : q27z.f k l0 a1_0 a1_1 l1_2 l1_3 a1_4 a1_5 a1_6 a1_7 = some (r1, r2, r3, r4, r5, r6, r7, r8)) :
  Calls Try.prog 23 #[.slice A0 l0.length c0, .agg #[.int .u32 a1_0, .int .i64 a1_1, .slice A1_2 l1_2.length c1_2, .slice A1_3 l1_3.length c1_3, .int .u32 a1_4, .int .u32 a1_5, .int .i64 a1_6, .int .u32 a1_7]] w fun e w' => ∃ v2_ v3_ : Value, e = .returned (.agg #[.int .u32 r1, .int .i64 r2, v2_, v3_, .int .u32 r5, .int .u32 r6, .int .i64 r7, .int .u32 r8]) ∧ Kd.R (Kd.int .u32) 22 w' w.heap.size (fun k_ => some k_ ≠ (v3_ : Value).ownBlock) v2_ r3 ∧ Kd.R (Kd.int .u32) 22 w' w.heap.size (fun k_ => some k_ ≠ (v2_ : Value).ownBlock) v3_ r4 ∧ Below w.heap.size w w' := by
 have hu30 := Try.underlying30
 have hu26 := Try.underlying26
 have HR0 := Aside0.mk hr0
 have HC0 := Aside0.mk hc0
 clear hr0 hc0
 have HR1_2 := Aside0.mk hr1_2
 have HC1_2 := Aside0.mk hc1_2
 clear hr1_2 hc1_2
 have HR1_3 := Aside0.mk hr1_3
 have HC1_3 := Aside0.mk hc1_3
 clear hr1_3 hc1_3
 have HB := Aside0.mk (Below.refl w.heap.size w)
 have H : ((q2z.f a1_0 a1_1 l1_2 l1_3 a1_4 a1_5 a1_6 a1_7).bind fun bt3 => (q27z.l0 k l0 (l0.length : Int) 0 bt3.1 bt3.2.1 bt3.2.2.1 bt3.2.2.2.1 bt3.2.2.2.2.1 bt3.2.2.2.2.2.1 bt3.2.2.2.2.2.2.1 bt3.2.2.2.2.2.2.2)) = some (r1, r2, r3, r4, r5, r6, r7, r8) := h
 clear h
 replace H := Option.bind_eq_some_iff.mp H
 obtain ⟨⟨t3, t4, t5, t8, t11, t12, t13, t14⟩, A30, H⟩ := H
 replace H : (q27z.l0 k l0 (l0.length : Int) 0 t3 t4 t5 t8 t11 t12 t13 t14) = some (r1, r2, r3, r4, r5, r6, r7, r8) := H
 have A3 := Aside0.mk A30
 clear A30
 have H' := Aside0.mk H
 clear H
 go_enter Try.func23, Try.ntmps23
 go_wp2_with (first | ((with_reducible refine gate_dst (N := 3) rfl ?_); refine box_event ?hg (N := 3) ?hd (cs := #[.int .u32 a1_0, .int .i64 a1_1, .slice A1_2 l1_2.length c1_2, .slice A1_3 l1_3.length c1_3, .int .u32 a1_4, .int .u32 a1_5, .int .i64 a1_6, .int .u32 a1_7]) (t := 30) ?hr ?_; (case hd => rfl); (case hg => rfl); (case hr => first | (go_simp; done) | (go_simp; rfl)); intro gb1 hg w4 hbox hb; have BK1 := Aside0.mk (hbox); have GW1 := Aside0.mk ((by rw [hg]; exact (below_size (hbW HB)) : w.heap.size ≤ gb1)); have GE1 := Aside0.mk ((by rw [hg]; exact (below_size (hbW HB)) : w.heap.size ≤ gb1)); replace HB := hbS HB hb; clear hb hbox hg) | ((with_reducible refine gate_dst (N := 4) rfl ?_); refine box_event ?hg (N := 4) ?hd (cs := #[.int .u32 0, .int .i64 0, .slice none 0 0, .slice none 0 0, .int .u32 0, .int .u32 0, .int .i64 0, .int .u32 0]) (t := 30) ?hr ?_; (case hd => rfl); (case hg => rfl); (case hr => first | (go_simp; done) | (go_simp; rfl)); intro gb2 hg w5 hbox hb; have BK2 := Aside0.mk (hbox); have GW2 := Aside0.mk ((by rw [hg]; exact (below_size (hbW HB)) : w.heap.size ≤ gb2)); have GE2 := Aside0.mk ((by rw [hg]; exact (below_size (hbW HB)) : w.heap.size ≤ gb2)); have NB1_2 := Aside0.mk ((by rw [hg]; exact Nat.ne_of_lt (blk_lt (bkW BK1)) : gb1 ≠ gb2)); have NB2_1 := Aside0.mk ((by rw [hg]; exact Nat.ne_of_gt (blk_lt (bkW BK1)) : gb2 ≠ gb1)); replace BK1 := bkB BK1 hb; replace HB := hbS HB hb; clear hb hbox hg; have hnb6 := NB1_2.out; have hnc6 := NB2_1.out; obtain ⟨hcz7_0, hcz7_1, hcz7_2, hcz7_3, hcz7_4, hcz7_5, hcz7_6, hcz7_7, hfz7_0, hfz7_1, hfz7_2, hfz7_3, hfz7_4, hfz7_5, hfz7_6, hfz7_7⟩ := bc8 BK1) | ((with_reducible refine gate_callee (f := 12) rfl ?_); refine goesL_ (some 8) rfl rfl Try.func12 (by kernel_rfl) rfl #[.agg #[.int .u32 a1_0, .int .i64 a1_1, .slice A1_2 l1_2.length c1_2, .slice A1_3 l1_3.length c1_3, .int .u32 a1_4, .int .u32 a1_5, .int .i64 a1_6, .int .u32 a1_7]] rfl (by (try simp only [List.map_toArray, List.map_cons, List.map_nil]); first | done | rfl | (simp only [List.length_drop, List.length_take]; rfl)) ?_; (with_reducible refine (q2z.calls a1_0 a1_1 _ _ l1_2 _ _ l1_3 a1_4 a1_5 a1_6 a1_7 t3 t4 t5 t8 t11 t12 t13 t14 _ ?side1 ?side2 ?side3 ?side4 A3.out).mono ?_); (case side1 => repeat (first | exact (Kd.C_below HR1_2.out HB.out) | (with_reducible refine Kd.C_alloc ?_ _) | (with_reducible refine Kd.C_drewN ?_ _) | (with_reducible refine Kd.C_drew ?_))); (case side2 => exact HC1_2.out); (case side3 => repeat (first | exact (Kd.C_below HR1_3.out HB.out) | (with_reducible refine Kd.C_alloc ?_ _) | (with_reducible refine Kd.C_drewN ?_ _) | (with_reducible refine Kd.C_drew ?_))); (case side4 => exact HC1_3.out); rintro e w8 ⟨v6, v9, rfl, ho0, ho1, hb⟩; refine ⟨_, rfl, ?_⟩; have HO7 := Aside0.mk (Kd.R_lower ho0 (below_size (hbW HB))); have HO10 := Aside0.mk (Kd.R_lower ho1 (below_size (hbW HB))); replace BK1 := bkB BK1 hb; replace BK2 := bkB BK2 hb; replace HB := hbS HB hb; (try clear hb); (try clear ho0); (try clear ho1); obtain ⟨hcz9_0, hcz9_1, hcz9_2, hcz9_3, hcz9_4, hcz9_5, hcz9_6, hcz9_7, hfz9_0, hfz9_1, hfz9_2, hfz9_3, hfz9_4, hfz9_5, hfz9_6, hfz9_7⟩ := bc8 BK1; obtain ⟨Ao10, co10, eo10⟩ := Kd.R_slice HO7.out; subst eo10; obtain ⟨Ao11, co11, eo11⟩ := Kd.R_slice HO10.out; subst eo11))
 go_loopg [11] k (fun kq v11 w' => ∃ (x11_1 : Int) (x2000_1 : Int) (x2001_1 : Int) (x2002_1 : List Int) (x2003_1 : List Int) (x2004_1 : Int) (x2005_1 : Int) (x2006_1 : Int) (x2007_1 : Int) (u2002 : Value) (u2003 : Value), v11 = .int .i64 x11_1 ∧ Aside0 (q27z.l0 kq l0 (l0.length : Int) x11_1 x2000_1 x2001_1 x2002_1 x2003_1 x2004_1 x2005_1 x2006_1 x2007_1 = some (r1, r2, r3, r4, r5, r6, r7, r8)) ∧ Aside0 (kq ≤ k) ∧ Aside0 (Kd.R (Kd.int .u32) 22 w' w.heap.size (fun k_ => some k_ ≠ (u2003 : Value).ownBlock) u2002 x2002_1) ∧ Aside0 (Kd.R (Kd.int .u32) 22 w' w.heap.size (fun k_ => some k_ ≠ (u2002 : Value).ownBlock) u2003 x2003_1) ∧ Aside0 (w'.heap[gb1]? = some (.cells #[.int .u32 x2000_1, .int .i64 x2001_1, u2002, u2003, .int .u32 x2004_1, .int .u32 x2005_1, .int .i64 x2006_1, .int .u32 x2007_1] 30 (0, 0))) ∧ Aside0 (w'.heap[gb2]? = some (.cells #[.int .u32 0, .int .i64 0, (.slice none 0 0), (.slice none 0 0), .int .u32 0, .int .u32 0, .int .i64 0, .int .u32 0] 30 (0, 0))) ∧ Aside0 (Below w.heap.size w w'))
 case atStart => exact ⟨(0), (t3), (t4), (t5), (t8), (t11), (t12), (t13), (t14), (.slice Ao10 t5.length co10), (.slice Ao11 t8.length co11), (by first | rfl | (simp; done) | (simp [*]; done)), H', ⟨Nat.le_refl _⟩, ⟨by (with_reducible repeat (first | apply Kd.R_alloc | apply Kd.R_drewN | apply Kd.R_drew)); exact Kd.R_mono (Kd.R_far (p := ⟨gb1, 7, none⟩) (Kd.R_far (p := ⟨gb1, 6, none⟩) (Kd.R_far (p := ⟨gb1, 5, none⟩) (Kd.R_far (p := ⟨gb1, 4, none⟩) (Kd.R_far (p := ⟨gb1, 3, none⟩) (Kd.R_far (p := ⟨gb1, 2, none⟩) (Kd.R_far (p := ⟨gb1, 1, none⟩) (Kd.R_far (p := ⟨gb1, 0, none⟩) (Kd.R_types HO7.out BK1.out (by decide)) (fun _ hk => hk.2) (.int .u32 t3)) (fun _ hk => hk.2) (.int .i64 t4)) (fun _ hk => hk.2) (.slice Ao10 t5.length co10)) (fun _ hk => hk.2) (.slice Ao11 t8.length co11)) (fun _ hk => hk.2) (.int .u32 t11)) (fun _ hk => hk.2) (.int .u32 t12)) (fun _ hk => hk.2) (.int .i64 t13)) (fun _ hk => hk.2) (.int .u32 t14)) (fun _ hk => hk.1)⟩, ⟨by (with_reducible repeat (first | apply Kd.R_alloc | apply Kd.R_drewN | apply Kd.R_drew)); exact Kd.R_mono (Kd.R_far (p := ⟨gb1, 7, none⟩) (Kd.R_far (p := ⟨gb1, 6, none⟩) (Kd.R_far (p := ⟨gb1, 5, none⟩) (Kd.R_far (p := ⟨gb1, 4, none⟩) (Kd.R_far (p := ⟨gb1, 3, none⟩) (Kd.R_far (p := ⟨gb1, 2, none⟩) (Kd.R_far (p := ⟨gb1, 1, none⟩) (Kd.R_far (p := ⟨gb1, 0, none⟩) (Kd.R_types HO10.out BK1.out (by decide)) (fun _ hk => hk.2) (.int .u32 t3)) (fun _ hk => hk.2) (.int .i64 t4)) (fun _ hk => hk.2) (.slice Ao10 t5.length co10)) (fun _ hk => hk.2) (.slice Ao11 t8.length co11)) (fun _ hk => hk.2) (.int .u32 t11)) (fun _ hk => hk.2) (.int .u32 t12)) (fun _ hk => hk.2) (.int .i64 t13)) (fun _ hk => hk.2) (.int .u32 t14)) (fun _ hk => hk.1)⟩, ⟨by (with_reducible repeat (first | refine blk_drewN ?_ _ | refine blk_drew ?_ | refine blk_alloc ?_ _)); refine blk_put (cs := #[.int .u32 t3, .int .i64 t4, .slice Ao10 t5.length co10, .slice Ao11 t8.length co11, .int .u32 t11, .int .u32 t12, .int .i64 t13, .int .u32 a1_7]) ?_ 7 _ rfl; (with_reducible repeat (first | refine blk_drewN ?_ _ | refine blk_drew ?_ | refine blk_alloc ?_ _)); refine blk_put (cs := #[.int .u32 t3, .int .i64 t4, .slice Ao10 t5.length co10, .slice Ao11 t8.length co11, .int .u32 t11, .int .u32 t12, .int .i64 a1_6, .int .u32 a1_7]) ?_ 6 _ rfl; (with_reducible repeat (first | refine blk_drewN ?_ _ | refine blk_drew ?_ | refine blk_alloc ?_ _)); refine blk_put (cs := #[.int .u32 t3, .int .i64 t4, .slice Ao10 t5.length co10, .slice Ao11 t8.length co11, .int .u32 t11, .int .u32 a1_5, .int .i64 a1_6, .int .u32 a1_7]) ?_ 5 _ rfl; (with_reducible repeat (first | refine blk_drewN ?_ _ | refine blk_drew ?_ | refine blk_alloc ?_ _)); refine blk_put (cs := #[.int .u32 t3, .int .i64 t4, .slice Ao10 t5.length co10, .slice Ao11 t8.length co11, .int .u32 a1_4, .int .u32 a1_5, .int .i64 a1_6, .int .u32 a1_7]) ?_ 4 _ rfl; (with_reducible repeat (first | refine blk_drewN ?_ _ | refine blk_drew ?_ | refine blk_alloc ?_ _)); refine blk_put (cs := #[.int .u32 t3, .int .i64 t4, .slice Ao10 t5.length co10, .slice A1_3 l1_3.length c1_3, .int .u32 a1_4, .int .u32 a1_5, .int .i64 a1_6, .int .u32 a1_7]) ?_ 3 _ rfl; (with_reducible repeat (first | refine blk_drewN ?_ _ | refine blk_drew ?_ | refine blk_alloc ?_ _)); refine blk_put (cs := #[.int .u32 t3, .int .i64 t4, .slice A1_2 l1_2.length c1_2, .slice A1_3 l1_3.length c1_3, .int .u32 a1_4, .int .u32 a1_5, .int .i64 a1_6, .int .u32 a1_7]) ?_ 2 _ rfl; (with_reducible repeat (first | refine blk_drewN ?_ _ | refine blk_drew ?_ | refine blk_alloc ?_ _)); refine blk_put (cs := #[.int .u32 t3, .int .i64 a1_1, .slice A1_2 l1_2.length c1_2, .slice A1_3 l1_3.length c1_3, .int .u32 a1_4, .int .u32 a1_5, .int .i64 a1_6, .int .u32 a1_7]) ?_ 1 _ rfl; (with_reducible repeat (first | refine blk_drewN ?_ _ | refine blk_drew ?_ | refine blk_alloc ?_ _)); refine blk_put (cs := #[.int .u32 a1_0, .int .i64 a1_1, .slice A1_2 l1_2.length c1_2, .slice A1_3 l1_3.length c1_3, .int .u32 a1_4, .int .u32 a1_5, .int .i64 a1_6, .int .u32 a1_7]) ?_ 0 _ rfl; (with_reducible repeat (first | refine blk_drewN ?_ _ | refine blk_drew ?_ | refine blk_alloc ?_ _)); exact BK1.out⟩, ⟨by (with_reducible repeat (first | refine blk_drewN ?_ _ | refine blk_drew ?_ | refine blk_alloc ?_ _)); refine blk_far ?_ NB2_1.out _; (with_reducible repeat (first | refine blk_drewN ?_ _ | refine blk_drew ?_ | refine blk_alloc ?_ _)); refine blk_far ?_ NB2_1.out _; (with_reducible repeat (first | refine blk_drewN ?_ _ | refine blk_drew ?_ | refine blk_alloc ?_ _)); refine blk_far ?_ NB2_1.out _; (with_reducible repeat (first | refine blk_drewN ?_ _ | refine blk_drew ?_ | refine blk_alloc ?_ _)); refine blk_far ?_ NB2_1.out _; (with_reducible repeat (first | refine blk_drewN ?_ _ | refine blk_drew ?_ | refine blk_alloc ?_ _)); refine blk_far ?_ NB2_1.out _; (with_reducible repeat (first | refine blk_drewN ?_ _ | refine blk_drew ?_ | refine blk_alloc ?_ _)); refine blk_far ?_ NB2_1.out _; (with_reducible repeat (first | refine blk_drewN ?_ _ | refine blk_drew ?_ | refine blk_alloc ?_ _)); refine blk_far ?_ NB2_1.out _; (with_reducible repeat (first | refine blk_drewN ?_ _ | refine blk_drew ?_ | refine blk_alloc ?_ _)); refine blk_far ?_ NB2_1.out _; (with_reducible repeat (first | refine blk_drewN ?_ _ | refine blk_drew ?_ | refine blk_alloc ?_ _)); exact BK2.out⟩, ⟨hbW HB⟩⟩
 case round =>
  clear H'
  try clear c1
  try clear c2
  try clear p2
  try clear c6
  try clear hcz7_0
  try clear hcz7_1
  try clear hcz7_2
  try clear hcz7_3
  try clear hcz7_4
  try clear hcz7_5
  try clear hcz7_6
  try clear hcz7_7
  try clear hcz9_0
  try clear hcz9_1
  try clear hcz9_2
  try clear hcz9_3
  try clear hcz9_4
  try clear hcz9_5
  try clear hcz9_6
  try clear hcz9_7
  try clear hfz7_0
  try clear hfz7_1
  try clear hfz7_2
  try clear hfz7_3
  try clear hfz7_4
  try clear hfz7_5
  try clear hfz7_6
  try clear hfz7_7
  try clear hfz9_0
  try clear hfz9_1
  try clear hfz9_2
  try clear hfz9_3
  try clear hfz9_4
  try clear hfz9_5
  try clear hfz9_6
  try clear hfz9_7
  obtain ⟨x11_1, x2000_1, x2001_1, x2002_1, x2003_1, x2004_1, x2005_1, x2006_1, x2007_1, u2002, u2003, rfl, HA, HK1, HO_2002, HO_2003, BK1, BK2, HB⟩ := hrel
  cases gk with
  | zero => exact absurd HA.out (by simp [q27z.l0])
  | succ k1 =>
   have H := HA.out
   clear HA
   simp only [q27z.l0] at H
   by_cases c12 : x11_1 < (l0.length : Int)
   ·
    rw [if_pos c12] at H
    have c12b0 : decide (x11_1 < (l0.length : Int)) = true := decide_eq_true c12
    clear c12
    by_cases c13 : 0 ≤ x11_1
    ·
     rw [if_pos c13] at H
     have c13b0 : decide (0 ≤ x11_1) = true := decide_eq_true c13
     clear c13
     by_cases c14 : x11_1 < (l0.length : Int)
     ·
      rw [if_pos c14] at H
      have c14b0 : decide (x11_1 < (l0.length : Int)) = true := decide_eq_true c14
      clear c14
      replace H := Option.bind_eq_some_iff.mp H
      obtain ⟨⟨t17, t18, t19, t22, t25, t26, t27, t28⟩, A150, H⟩ := H
      replace H : (q27z.l0 k1 l0 (l0.length : Int) (wrap64 (x11_1 + 1)) t17 t18 t19 t22 t25 t26 t27 t28) = some (r1, r2, r3, r4, r5, r6, r7, r8) := H
      have A15 := Aside0.mk A150
      clear A150
      have H' := Aside0.mk H
      clear H
      have p15 : 0 ≤ (x11_1 : Int) := of_decide_eq_true (by first | (with_reducible assumption) | assumption)
      have q15 : x11_1 < (l0.length : Int) := of_decide_eq_true (by first | (with_reducible assumption) | assumption)
      obtain ⟨ad15, A15_2, c15_2, A15_3, c15_3, e15, hx15_0, hx15_1, hx15_2, hx15_3, hl15_2, hi15_2, hl15_3, hi15_3⟩ := at_T26 HR0.out x11_1 p15 q15
      cases e15
      replace hx15_0 := (HB.out.cell (World.block_lt_of_cell? w _ hx15_0)).trans hx15_0
      replace hx15_1 := (HB.out.cell (World.block_lt_of_cell? w _ hx15_1)).trans hx15_1
      replace hx15_2 := (HB.out.cell (World.block_lt_of_cell? w _ hx15_2)).trans hx15_2
      replace hx15_3 := (HB.out.cell (World.block_lt_of_cell? w _ hx15_3)).trans hx15_3
      have HR15_2 := Aside0.mk hi15_2
      have HC15_2 := Aside0.mk hl15_2
      clear hi15_2 hl15_2
      have HR15_3 := Aside0.mk hi15_3
      have HC15_3 := Aside0.mk hl15_3
      clear hi15_3 hl15_3
      replace p15 := eq_true p15
      replace q15 := eq_true q15
      go_wp2_with (first | ((with_reducible refine gate_dst (N := 6) rfl ?_); refine box_event ?hg (N := 6) ?hd (cs := #[.int .i64 0, .int .u32 0, .slice none 0 0, .slice none 0 0]) (t := 26) ?hr ?_; (case hd => rfl); (case hg => rfl); (case hr => first | (go_simp; done) | (go_simp; rfl)); intro gb16 hg w16 hbox hb; have BK16 := Aside0.mk (hbox); have GW16 := Aside0.mk ((by rw [hg]; exact (below_size (hbW HB)) : w.heap.size ≤ gb16)); have GE16 := Aside0.mk ((by rw [hg]; exact (below_size (hbW HB)) : w.heap.size ≤ gb16)); have NB1_16 := Aside0.mk ((by rw [hg]; exact Nat.ne_of_lt (blk_lt (bkW BK1)) : gb1 ≠ gb16)); have NB16_1 := Aside0.mk ((by rw [hg]; exact Nat.ne_of_gt (blk_lt (bkW BK1)) : gb16 ≠ gb1)); have NB2_16 := Aside0.mk ((by rw [hg]; exact Nat.ne_of_lt (blk_lt (bkW BK2)) : gb2 ≠ gb16)); have NB16_2 := Aside0.mk ((by rw [hg]; exact Nat.ne_of_gt (blk_lt (bkW BK2)) : gb16 ≠ gb2)); replace HO_2002 := Aside0.mk (Kd.R_below (rW HO_2002) hb); replace HO_2003 := Aside0.mk (Kd.R_below (rW HO_2003) hb); replace BK1 := bkB BK1 hb; replace BK2 := bkB BK2 hb; replace HB := hbS HB hb; clear hb hbox hg; have hnb17 := NB16_1.out; have hnc17 := NB1_16.out; have hnb18 := NB16_2.out; have hnc18 := NB2_16.out; obtain ⟨hcz19_0, hcz19_1, hcz19_2, hcz19_3, hfz19_0, hfz19_1, hfz19_2, hfz19_3⟩ := bc4 BK16; have hnb20 := NB1_2.out; have hnc20 := NB2_1.out; obtain ⟨hcz21_0, hcz21_1, hcz21_2, hcz21_3, hcz21_4, hcz21_5, hcz21_6, hcz21_7, hfz21_0, hfz21_1, hfz21_2, hfz21_3, hfz21_4, hfz21_5, hfz21_6, hfz21_7⟩ := bc8 BK1; obtain ⟨Ao22, co22, eo22⟩ := Kd.R_slice HO_2002.out; subst eo22; obtain ⟨Ao23, co23, eo23⟩ := Kd.R_slice HO_2003.out; subst eo23) | ((with_reducible refine gate_callee (f := 17) rfl ?_); refine goesL_ (some 17) rfl rfl Try.func17 (by kernel_rfl) rfl #[.agg #[.int .i64 ((rd_T26 l0 x11_1).f0), .int .u32 ((rd_T26 l0 x11_1).f1), .slice A15_2 ((rd_T26 l0 x11_1).f2).length c15_2, .slice A15_3 ((rd_T26 l0 x11_1).f3).length c15_3], .agg #[.int .u32 x2000_1, .int .i64 x2001_1, .slice Ao22 x2002_1.length co22, .slice Ao23 x2003_1.length co23, .int .u32 x2004_1, .int .u32 x2005_1, .int .i64 x2006_1, .int .u32 x2007_1]] rfl (by (try simp only [List.map_toArray, List.map_cons, List.map_nil]); first | done | rfl | (simp only [List.length_drop, List.length_take]; rfl)) ?_; (with_reducible refine (q26z.calls k1 ((rd_T26 l0 x11_1).f0) ((rd_T26 l0 x11_1).f1) _ _ ((rd_T26 l0 x11_1).f2) _ _ ((rd_T26 l0 x11_1).f3) x2000_1 x2001_1 _ _ x2002_1 _ _ x2003_1 x2004_1 x2005_1 x2006_1 x2007_1 t17 t18 t19 t22 t25 t26 t27 t28 _ ?side1 ?side2 ?side3 ?side4 ?side5 ?side6 ?side7 ?side8 A15.out).mono ?_); (case side1 => exact Kd.C_below HR15_2.out (hbW HB)); (case side2 => exact HC15_2.out); (case side3 => exact Kd.C_below HR15_3.out (hbW HB)); (case side4 => exact HC15_3.out); (case side5 => refine (Kd.R_reads' (e := 22) (base := w.heap.size) (ok := fun k_ => some k_ ≠ (.slice Ao23 x2003_1.length co23 : Value).ownBlock) (n := x2002_1.length) (c := co22) ?_).2.2; exact (rW HO_2002)); (case side6 => exact (Kd.R_reads' HO_2002.out).2.1); (case side7 => refine (Kd.R_reads' (e := 22) (base := w.heap.size) (ok := fun k_ => some k_ ≠ (.slice Ao22 x2002_1.length co22 : Value).ownBlock) (n := x2003_1.length) (c := co23) ?_).2.2; exact (rW HO_2003)); (case side8 => exact (Kd.R_reads' HO_2003.out).2.1); rintro e w24 ⟨v20, v23, rfl, ho0, ho1, hb⟩; refine ⟨_, rfl, ?_⟩; have HO21 := Aside0.mk (Kd.R_lower (Kd.R_new' (Kd.R_new' ho0 (Kd.R_lt (rW HO_2002))) (Kd.R_lt (rW HO_2003))) (below_size (hbW HB))); have HO24 := Aside0.mk (Kd.R_lower (Kd.R_new' (Kd.R_new' ho1 (Kd.R_lt (rW HO_2002))) (Kd.R_lt (rW HO_2003))) (below_size (hbW HB))); replace HO_2002 := Aside0.mk (Kd.R_mono (Kd.R_told (Kd.R_told (Kd.R_old (rW HO_2002) hb) (Kd.R_base ho0)) (Kd.R_base ho1)) (fun _ h_ => h_.1)); replace HO_2003 := Aside0.mk (Kd.R_mono (Kd.R_told (Kd.R_told (Kd.R_old (rW HO_2003) hb) (Kd.R_base ho0)) (Kd.R_base ho1)) (fun _ h_ => h_.1)); replace BK1 := bvB BK1 hb; replace BK2 := bvB BK2 hb; replace BK16 := Aside0.mk (blk_below (g := gb16) (o := .cells #[.int .i64 ((rd_T26 l0 x11_1).f0), .int .u32 ((rd_T26 l0 x11_1).f1), .slice A15_2 ((rd_T26 l0 x11_1).f2).length c15_2, .slice A15_3 ((rd_T26 l0 x11_1).f3).length c15_3] 26 (0, 0)) (bp4 BK16) hb); replace HB := hbS HB hb; (try clear hb); (try clear ho0); (try clear ho1); obtain ⟨hcz25_0, hcz25_1, hcz25_2, hcz25_3, hcz25_4, hcz25_5, hcz25_6, hcz25_7, hfz25_0, hfz25_1, hfz25_2, hfz25_3, hfz25_4, hfz25_5, hfz25_6, hfz25_7⟩ := bc8 BK1; obtain ⟨Ao26, co26, eo26⟩ := Kd.R_slice HO21.out; subst eo26; obtain ⟨Ao27, co27, eo27⟩ := Kd.R_slice HO24.out; subst eo27))
      go_roundg k1
      case measure => have := HK1.out; omega
      case rel => exact ⟨(wrap64 (x11_1 + 1)), (t17), (t18), (t19), (t22), (t25), (t26), (t27), (t28), (.slice Ao26 t19.length co26), (.slice Ao27 t22.length co27), (by first | rfl | (simp; done) | (simp [*]; done)), H', ⟨by have := HK1.out; omega⟩, ⟨by (with_reducible repeat (first | apply Kd.R_alloc | apply Kd.R_drewN | apply Kd.R_drew)); exact Kd.R_mono (Kd.R_far (p := ⟨gb1, 7, none⟩) (Kd.R_far (p := ⟨gb1, 6, none⟩) (Kd.R_far (p := ⟨gb1, 5, none⟩) (Kd.R_far (p := ⟨gb1, 4, none⟩) (Kd.R_far (p := ⟨gb1, 3, none⟩) (Kd.R_far (p := ⟨gb1, 2, none⟩) (Kd.R_far (p := ⟨gb1, 1, none⟩) (Kd.R_far (p := ⟨gb1, 0, none⟩) (Kd.R_types HO21.out BK1.out (by decide)) (fun _ hk => hk.2) (.int .u32 t17)) (fun _ hk => hk.2) (.int .i64 t18)) (fun _ hk => hk.2) (.slice Ao26 t19.length co26)) (fun _ hk => hk.2) (.slice Ao27 t22.length co27)) (fun _ hk => hk.2) (.int .u32 t25)) (fun _ hk => hk.2) (.int .u32 t26)) (fun _ hk => hk.2) (.int .i64 t27)) (fun _ hk => hk.2) (.int .u32 t28)) (fun _ hk => hk.1.1.1)⟩, ⟨by (with_reducible repeat (first | apply Kd.R_alloc | apply Kd.R_drewN | apply Kd.R_drew)); exact Kd.R_mono (Kd.R_far (p := ⟨gb1, 7, none⟩) (Kd.R_far (p := ⟨gb1, 6, none⟩) (Kd.R_far (p := ⟨gb1, 5, none⟩) (Kd.R_far (p := ⟨gb1, 4, none⟩) (Kd.R_far (p := ⟨gb1, 3, none⟩) (Kd.R_far (p := ⟨gb1, 2, none⟩) (Kd.R_far (p := ⟨gb1, 1, none⟩) (Kd.R_far (p := ⟨gb1, 0, none⟩) (Kd.R_types HO24.out BK1.out (by decide)) (fun _ hk => hk.2) (.int .u32 t17)) (fun _ hk => hk.2) (.int .i64 t18)) (fun _ hk => hk.2) (.slice Ao26 t19.length co26)) (fun _ hk => hk.2) (.slice Ao27 t22.length co27)) (fun _ hk => hk.2) (.int .u32 t25)) (fun _ hk => hk.2) (.int .u32 t26)) (fun _ hk => hk.2) (.int .i64 t27)) (fun _ hk => hk.2) (.int .u32 t28)) (fun _ hk => hk.1.1.1)⟩, ⟨by (with_reducible repeat (first | refine blk_drewN ?_ _ | refine blk_drew ?_ | refine blk_alloc ?_ _)); refine blk_put (cs := #[.int .u32 t17, .int .i64 t18, .slice Ao26 t19.length co26, .slice Ao27 t22.length co27, .int .u32 t25, .int .u32 t26, .int .i64 t27, .int .u32 x2007_1]) ?_ 7 _ rfl; (with_reducible repeat (first | refine blk_drewN ?_ _ | refine blk_drew ?_ | refine blk_alloc ?_ _)); refine blk_put (cs := #[.int .u32 t17, .int .i64 t18, .slice Ao26 t19.length co26, .slice Ao27 t22.length co27, .int .u32 t25, .int .u32 t26, .int .i64 x2006_1, .int .u32 x2007_1]) ?_ 6 _ rfl; (with_reducible repeat (first | refine blk_drewN ?_ _ | refine blk_drew ?_ | refine blk_alloc ?_ _)); refine blk_put (cs := #[.int .u32 t17, .int .i64 t18, .slice Ao26 t19.length co26, .slice Ao27 t22.length co27, .int .u32 t25, .int .u32 x2005_1, .int .i64 x2006_1, .int .u32 x2007_1]) ?_ 5 _ rfl; (with_reducible repeat (first | refine blk_drewN ?_ _ | refine blk_drew ?_ | refine blk_alloc ?_ _)); refine blk_put (cs := #[.int .u32 t17, .int .i64 t18, .slice Ao26 t19.length co26, .slice Ao27 t22.length co27, .int .u32 x2004_1, .int .u32 x2005_1, .int .i64 x2006_1, .int .u32 x2007_1]) ?_ 4 _ rfl; (with_reducible repeat (first | refine blk_drewN ?_ _ | refine blk_drew ?_ | refine blk_alloc ?_ _)); refine blk_put (cs := #[.int .u32 t17, .int .i64 t18, .slice Ao26 t19.length co26, .slice Ao23 x2003_1.length co23, .int .u32 x2004_1, .int .u32 x2005_1, .int .i64 x2006_1, .int .u32 x2007_1]) ?_ 3 _ rfl; (with_reducible repeat (first | refine blk_drewN ?_ _ | refine blk_drew ?_ | refine blk_alloc ?_ _)); refine blk_put (cs := #[.int .u32 t17, .int .i64 t18, .slice Ao22 x2002_1.length co22, .slice Ao23 x2003_1.length co23, .int .u32 x2004_1, .int .u32 x2005_1, .int .i64 x2006_1, .int .u32 x2007_1]) ?_ 2 _ rfl; (with_reducible repeat (first | refine blk_drewN ?_ _ | refine blk_drew ?_ | refine blk_alloc ?_ _)); refine blk_put (cs := #[.int .u32 t17, .int .i64 x2001_1, .slice Ao22 x2002_1.length co22, .slice Ao23 x2003_1.length co23, .int .u32 x2004_1, .int .u32 x2005_1, .int .i64 x2006_1, .int .u32 x2007_1]) ?_ 1 _ rfl; (with_reducible repeat (first | refine blk_drewN ?_ _ | refine blk_drew ?_ | refine blk_alloc ?_ _)); refine blk_put (cs := #[.int .u32 x2000_1, .int .i64 x2001_1, .slice Ao22 x2002_1.length co22, .slice Ao23 x2003_1.length co23, .int .u32 x2004_1, .int .u32 x2005_1, .int .i64 x2006_1, .int .u32 x2007_1]) ?_ 0 _ rfl; (with_reducible repeat (first | refine blk_drewN ?_ _ | refine blk_drew ?_ | refine blk_alloc ?_ _)); exact BK1.out⟩, ⟨by (with_reducible repeat (first | refine blk_drewN ?_ _ | refine blk_drew ?_ | refine blk_alloc ?_ _)); refine blk_far ?_ NB2_1.out _; (with_reducible repeat (first | refine blk_drewN ?_ _ | refine blk_drew ?_ | refine blk_alloc ?_ _)); refine blk_far ?_ NB2_1.out _; (with_reducible repeat (first | refine blk_drewN ?_ _ | refine blk_drew ?_ | refine blk_alloc ?_ _)); refine blk_far ?_ NB2_1.out _; (with_reducible repeat (first | refine blk_drewN ?_ _ | refine blk_drew ?_ | refine blk_alloc ?_ _)); refine blk_far ?_ NB2_1.out _; (with_reducible repeat (first | refine blk_drewN ?_ _ | refine blk_drew ?_ | refine blk_alloc ?_ _)); refine blk_far ?_ NB2_1.out _; (with_reducible repeat (first | refine blk_drewN ?_ _ | refine blk_drew ?_ | refine blk_alloc ?_ _)); refine blk_far ?_ NB2_1.out _; (with_reducible repeat (first | refine blk_drewN ?_ _ | refine blk_drew ?_ | refine blk_alloc ?_ _)); refine blk_far ?_ NB2_1.out _; (with_reducible repeat (first | refine blk_drewN ?_ _ | refine blk_drew ?_ | refine blk_alloc ?_ _)); refine blk_far ?_ NB2_1.out _; (with_reducible repeat (first | refine blk_drewN ?_ _ | refine blk_drew ?_ | refine blk_alloc ?_ _)); exact BK2.out⟩, ⟨hbW HB⟩⟩
     ·
      rw [if_neg c14] at H
      exact absurd H (by simp)
    ·
     rw [if_neg c13] at H
     exact absurd H (by simp)
   ·
    rw [if_neg c12] at H
    have c12b0 : decide (x11_1 < (l0.length : Int)) = false := decide_eq_false c12
    clear c12
    simp only [Option.some.injEq, Prod.mk.injEq] at H
    obtain ⟨rfl, rfl, rfl, rfl, rfl, rfl, rfl, rfl⟩ := H
    have hnb28 := NB1_2.out
    have hnc28 := NB2_1.out
    obtain ⟨hcz29_0, hcz29_1, hcz29_2, hcz29_3, hcz29_4, hcz29_5, hcz29_6, hcz29_7, hfz29_0, hfz29_1, hfz29_2, hfz29_3, hfz29_4, hfz29_5, hfz29_6, hfz29_7⟩ := bc8 BK1
    obtain ⟨hcz30_0, hcz30_1, hcz30_2, hcz30_3, hcz30_4, hcz30_5, hcz30_6, hcz30_7, hfz30_0, hfz30_1, hfz30_2, hfz30_3, hfz30_4, hfz30_5, hfz30_6, hfz30_7⟩ := bc8 BK2
    obtain ⟨Ao31, co31, eo31⟩ := Kd.R_slice HO_2002.out
    subst eo31
    obtain ⟨Ao32, co32, eo32⟩ := Kd.R_slice HO_2003.out
    subst eo32
    go_wp2
    refine bodyPost_ret (results_cell_row rfl _ _ gb2 30 #[.int .u32 x2000_1, .int .i64 x2001_1, .slice Ao31 x2002_1.length co31, .slice Ao32 x2003_1.length co32, .int .u32 x2004_1, .int .u32 x2005_1, .int .i64 x2006_1, .int .u32 x2007_1] (0, 0) _ rfl (bp8 BK2) Try.underlying30 rfl (by kernel_rfl)) rfl ?_
    exact ⟨_, _, by first | rfl | (simp [errW_none, errW_some] <;> rfl) | (simp [*, errW_none, errW_some] <;> rfl), by (with_reducible repeat (first | apply Kd.R_alloc | apply Kd.R_drewN | apply Kd.R_drew)); exact Kd.R_mono (Kd.R_far (p := ⟨gb2, 7, none⟩) (Kd.R_far (p := ⟨gb2, 6, none⟩) (Kd.R_far (p := ⟨gb2, 5, none⟩) (Kd.R_far (p := ⟨gb2, 4, none⟩) (Kd.R_far (p := ⟨gb2, 3, none⟩) (Kd.R_far (p := ⟨gb2, 2, none⟩) (Kd.R_far (p := ⟨gb2, 1, none⟩) (Kd.R_far (p := ⟨gb2, 0, none⟩) (Kd.R_types HO_2002.out BK2.out (by decide)) (fun _ hk => hk.2) (.int .u32 x2000_1)) (fun _ hk => hk.2) (.int .i64 x2001_1)) (fun _ hk => hk.2) (.slice Ao31 x2002_1.length co31)) (fun _ hk => hk.2) (.slice Ao32 x2003_1.length co32)) (fun _ hk => hk.2) (.int .u32 x2004_1)) (fun _ hk => hk.2) (.int .u32 x2005_1)) (fun _ hk => hk.2) (.int .i64 x2006_1)) (fun _ hk => hk.2) (.int .u32 x2007_1)) (fun _ hk => hk.1), by (with_reducible repeat (first | apply Kd.R_alloc | apply Kd.R_drewN | apply Kd.R_drew)); exact Kd.R_mono (Kd.R_far (p := ⟨gb2, 7, none⟩) (Kd.R_far (p := ⟨gb2, 6, none⟩) (Kd.R_far (p := ⟨gb2, 5, none⟩) (Kd.R_far (p := ⟨gb2, 4, none⟩) (Kd.R_far (p := ⟨gb2, 3, none⟩) (Kd.R_far (p := ⟨gb2, 2, none⟩) (Kd.R_far (p := ⟨gb2, 1, none⟩) (Kd.R_far (p := ⟨gb2, 0, none⟩) (Kd.R_types HO_2003.out BK2.out (by decide)) (fun _ hk => hk.2) (.int .u32 x2000_1)) (fun _ hk => hk.2) (.int .i64 x2001_1)) (fun _ hk => hk.2) (.slice Ao31 x2002_1.length co31)) (fun _ hk => hk.2) (.slice Ao32 x2003_1.length co32)) (fun _ hk => hk.2) (.int .u32 x2004_1)) (fun _ hk => hk.2) (.int .u32 x2005_1)) (fun _ hk => hk.2) (.int .i64 x2006_1)) (fun _ hk => hk.2) (.int .u32 x2007_1)) (fun _ hk => hk.1), hbW HB⟩

end Go.Proofs.Ytgelpccjdndfoaa.P

namespace Go.Proofs.Ytgelpccjdndfoaa.P
open Go.RowKit Go.Proofs.YtgelpccjdndfoaaW.PrintWords Go.Proofs.YtgelpccjdndfoaaW.PrintMore
set_option linter.unusedVariables false
set_option linter.unusedSimpArgs false
theorem wr (i : Int) (h0 : -9223372036854775808 ≤ i) (h1 : i ≤ 9223372036854775807) : wrap64 i = i := by unfold wrap64; omega
theorem wrN (i : Nat) (h : i < 9223372036854775807) : wrap64 ((i : Int) + 1) = ((i + 1 : Nat) : Int) := by rw [wr _ (by omega) (by omega)]; omega
theorem rdI (l : List Int) (i : Nat) (h : i < l.length) : rd l (i : Int) = l[i] := by
  unfold rd
  rw [Int.toNat_natCast, List.getD_eq_getElem?_getD, List.getElem?_eq_getElem h]
  rfl
def U32 (a : Int) : Prop := 0 ≤ a ∧ a ≤ 4294967295
def I64 (a : Int) : Prop := -9223372036854775808 ≤ a ∧ a ≤ 9223372036854775807
theorem u32_of {a : Int} (h : (Lit.int .u32 a).wf = true) : U32 a := by
  simp [Lit.wf, IntKind.min, IntKind.max, IntKind.signed, IntKind.bits] at h
  unfold U32
  omega
theorem i64_of {a : Int} (h : (Lit.int .i64 a).wf = true) : I64 a := by
  simp [Lit.wf, IntKind.min, IntKind.max, IntKind.signed, IntKind.bits] at h
  unfold I64
  omega
theorem U32.wr {a : Int} (h : U32 a) : wrap64 a = a := by obtain ⟨h0, h1⟩ := h; exact Go.Proofs.Ytgelpccjdndfoaa.P.wr a (by omega) (by omega)
/-- A list of numbers of 32 bits, no longer than memory has it. -/
def LU (l : List Int) : Prop := l.length ≤ 9223372036854775807 ∧ ∀ z ∈ l, U32 z
theorem lu_of {l : List Int} (h : l.length ≤ 9223372036854775807 ∧ ∀ z_ ∈ l, (Lit.int .u32 z_).wf = true) : LU l := ⟨h.1, fun z hz => u32_of (h.2 z hz)⟩
/-! Which comes first. -/
def cmpI (a b : Int) : Int := if a < b then -1 else if a > b then 1 else 0
def listC : List Int → List Int → Int
  | [], [] => 0
  | [], _ :: _ => -1
  | _ :: _, [] => 1
  | a :: s, b :: t => if cmpI a b = 0 then listC s t else cmpI a b
def firstNZ : List Int → Int
  | [] => 0
  | a :: s => if a = 0 then firstNZ s else a
/-- What an order's answer has. -/
structure Ord {α : Type} (c : α → α → Int) : Prop where
  rng : ∀ a b, c a b = -1 ∨ c a b = 0 ∨ c a b = 1
  anti : ∀ a b, c b a = - c a b
  eq0 : ∀ a b, c a b = 0 → a = b
  trans : ∀ a b d, c a b ≤ 0 → c b d ≤ 0 → c a d ≤ 0
theorem Ord.self {α : Type} {c : α → α → Int} (h : Ord c) (a : α) : c a a = 0 := by have := h.anti a a; omega
theorem cmpI_ord : Ord cmpI where
  rng a b := by unfold cmpI; split <;> (try split) <;> omega
  anti a b := by unfold cmpI; split <;> split <;> (try split) <;> (try split) <;> omega
  eq0 a b h := by unfold cmpI at h; split at h <;> (try split at h) <;> omega
  trans a b d h1 h2 := by
    unfold cmpI at *
    split at h1 <;> (try split at h1) <;> split at h2 <;> (try split at h2) <;> split <;> (try split) <;> omega
def lex {α β : Type} (c1 : α → α → Int) (c2 : β → β → Int) (a b : α × β) : Int := if c1 a.1 b.1 = 0 then c2 a.2 b.2 else c1 a.1 b.1
theorem Ord.lex {α β : Type} {c1 : α → α → Int} {c2 : β → β → Int} (h1 : Ord c1) (h2 : Ord c2) : Ord (lex c1 c2) where
  rng a b := by unfold P.lex; split; exact h2.rng _ _; exact h1.rng _ _
  anti a b := by
    unfold P.lex
    have e := h1.anti a.1 b.1
    by_cases h : c1 a.1 b.1 = 0
    · rw [if_pos h, if_pos (by omega)]; exact h2.anti _ _
    · rw [if_neg h, if_neg (by omega)]; exact e
  eq0 a b h := by
    unfold P.lex at h
    by_cases h0 : c1 a.1 b.1 = 0
    · rw [if_pos h0] at h
      exact Prod.ext (h1.eq0 _ _ h0) (h2.eq0 _ _ h)
    · rw [if_neg h0] at h; exact absurd h h0
  trans a b d ha hb := by
    unfold P.lex at *
    by_cases e1 : c1 a.1 b.1 = 0
    · rw [if_pos e1] at ha
      rw [h1.eq0 _ _ e1]
      by_cases e2 : c1 b.1 d.1 = 0
      · rw [if_pos e2] at hb ⊢; exact h2.trans _ _ _ ha hb
      · rw [if_neg e2] at hb ⊢; exact hb
    · rw [if_neg e1] at ha
      by_cases e2 : c1 b.1 d.1 = 0
      · rw [if_pos e2] at hb
        rw [← h1.eq0 _ _ e2, if_neg e1]; exact ha
      · rw [if_neg e2] at hb
        have t := h1.trans _ _ _ ha hb
        by_cases e3 : c1 a.1 d.1 = 0
        · have := h1.eq0 _ _ e3
          have := h1.anti a.1 b.1
          rw [← h1.eq0 _ _ e3] at hb
          omega
        · rw [if_neg e3]; exact t
theorem listC_rng : ∀ a b, listC a b = -1 ∨ listC a b = 0 ∨ listC a b = 1
  | [], [] => by simp [listC]
  | [], _ :: _ => by simp [listC]
  | _ :: _, [] => by simp [listC]
  | a :: s, b :: t => by
    simp only [listC]
    split
    · exact listC_rng s t
    · exact cmpI_ord.rng a b
theorem listC_anti : ∀ a b, listC b a = - listC a b
  | [], [] => by simp [listC]
  | [], _ :: _ => by simp [listC]
  | _ :: _, [] => by simp [listC]
  | a :: s, b :: t => by
    simp only [listC]
    have e := cmpI_ord.anti a b
    by_cases h : cmpI a b = 0
    · rw [if_pos h, if_pos (by omega)]; exact listC_anti s t
    · rw [if_neg h, if_neg (by omega)]; exact e
theorem listC_eq0 : ∀ a b, listC a b = 0 → a = b
  | [], [] => fun _ => rfl
  | [], _ :: _ => by simp [listC]
  | _ :: _, [] => by simp [listC]
  | a :: s, b :: t => by
    simp only [listC]
    by_cases h : cmpI a b = 0
    · rw [if_pos h]
      intro h2
      rw [cmpI_ord.eq0 a b h, listC_eq0 s t h2]
    · rw [if_neg h]; exact fun h2 => absurd h2 h
theorem listC_trans : ∀ a b d, listC a b ≤ 0 → listC b d ≤ 0 → listC a d ≤ 0
  | [], _, [] => by simp [listC]
  | [], _, _ :: _ => by simp [listC]
  | _ :: _, [], _ => by simp [listC]
  | _ :: _, _ :: _, [] => by simp [listC]
  | a :: s, b :: t, d :: u => by
    intro h1 h2
    have k : ∀ x y : Int, ∀ p q : List Int, listC (x :: p) (y :: q) = if cmpI x y = 0 then listC p q else cmpI x y := fun _ _ _ _ => rfl
    rw [k] at h1 h2 ⊢
    by_cases e1 : cmpI a b = 0
    · rw [if_pos e1] at h1
      rw [cmpI_ord.eq0 a b e1]
      by_cases e2 : cmpI b d = 0
      · rw [if_pos e2] at h2 ⊢; exact listC_trans s t u h1 h2
      · rw [if_neg e2] at h2 ⊢; exact h2
    · rw [if_neg e1] at h1
      by_cases e2 : cmpI b d = 0
      · rw [← cmpI_ord.eq0 b d e2, if_neg e1]; exact h1
      · rw [if_neg e2] at h2
        have t := cmpI_ord.trans a b d h1 h2
        by_cases e3 : cmpI a d = 0
        · have := cmpI_ord.anti a b
          rw [← cmpI_ord.eq0 a d e3] at h2
          omega
        · rw [if_neg e3]; exact t
theorem listC_ord : Ord listC := ⟨listC_rng, listC_anti, listC_eq0, listC_trans⟩
abbrev R8 := Int × Int × List Int × List Int × Int × Int × Int × Int
def cmpR (a b : R8) : Int := firstNZ [cmpI a.1 b.1, cmpI a.2.1 b.2.1, listC a.2.2.1 b.2.2.1, listC a.2.2.2.1 b.2.2.2.1, cmpI a.2.2.2.2.1 b.2.2.2.2.1, cmpI a.2.2.2.2.2.1 b.2.2.2.2.2.1, cmpI a.2.2.2.2.2.2.1 b.2.2.2.2.2.2.1, cmpI a.2.2.2.2.2.2.2 b.2.2.2.2.2.2.2]
theorem cmpR_eq : cmpR = lex cmpI (lex cmpI (lex listC (lex listC (lex cmpI (lex cmpI (lex cmpI cmpI)))))) := by
  funext a b
  have z : ∀ x : Int, (if x = 0 then (0 : Int) else x) = x := fun x => by split <;> omega
  simp only [cmpR, firstNZ, lex, z]
theorem cmpR_ord : Ord cmpR := by
  rw [cmpR_eq]
  exact cmpI_ord.lex (cmpI_ord.lex (listC_ord.lex (listC_ord.lex (cmpI_ord.lex (cmpI_ord.lex (cmpI_ord.lex cmpI_ord))))))
/-! What the code computes. -/
theorem number_f (a b : Int) : q10z.f a b = some (cmpI a b) := by
  unfold q10z.f cmpI
  split
  · rfl
  · split <;> rfl
theorem cmpI_self (a : Int) : cmpI a a = 0 := cmpI_ord.self a
theorem drop_ge (l : List Int) (i : Nat) (h : l.length ≤ i) : l.drop i = [] := List.drop_eq_nil_of_le h
theorem list_end (a b : List Int) (i : Nat) (ha : i ≤ a.length) (hb : i ≤ b.length) (h : ¬ (i < a.length ∧ i < b.length)) : cmpI (a.length : Int) (b.length : Int) = listC (a.drop i) (b.drop i) := by
  by_cases h1 : i < a.length
  · have h2 : ¬ i < b.length := fun h2 => h ⟨h1, h2⟩
    rw [drop_ge b i (by omega), List.drop_eq_getElem_cons h1]
    simp only [listC]
    unfold cmpI
    rw [if_neg (by omega), if_pos (by omega)]
  · rw [drop_ge a i (by omega)]
    by_cases h2 : i < b.length
    · rw [List.drop_eq_getElem_cons h2]
      simp only [listC]
      unfold cmpI
      rw [if_pos (by omega)]
    · rw [drop_ge b i (by omega)]
      simp only [listC]
      unfold cmpI
      rw [if_neg (by omega), if_neg (by omega)]
theorem list_l0 (a b : List Int) (ha : LU a) (hb : LU b) : ∀ (d i : Nat), i + d = a.length → i ≤ b.length → Ev (fun k => q11z.l0 k a b (i : Int)) (listC (a.drop i) (b.drop i))
  | 0, i, hi, hib => by
    refine Ev.step (f := fun k => q11z.j1 k a b (i : Int) false) (fun k => ?_) ?_
    · simp only [q11z.l0]
      rw [if_neg (by omega)]
    · refine Ev.step (f := fun _ => some (listC (a.drop i) (b.drop i))) (fun k => ?_) (Ev.now _)
      simp only [q11z.j1, Bool.false_eq_true, if_false, number_f, Option.bind_some, list_end a b i (by omega) hib (by omega)]
  | d + 1, i, hi, hib => by
    have hia : i < a.length := by omega
    have hl := ha.1
    by_cases h : i < b.length
    · have ih := list_l0 a b ha hb d (i + 1) (by omega) (by omega)
      refine Ev.step (f := fun k => q11z.j1 k a b (i : Int) true) (fun k => ?_) ?_
      · simp only [q11z.l0]
        rw [if_pos (by omega), decide_eq_true (by omega)]
      · rw [List.drop_eq_getElem_cons hia, List.drop_eq_getElem_cons h]
        by_cases e : a[i] = b[i]
        · refine Ev.step (f := fun k => q11z.l0 k a b ((i + 1 : Nat) : Int)) (fun k => ?_) ?_
          · simp only [q11z.j1]
            rw [if_pos trivial, if_pos (by omega), if_pos (by omega), if_pos (by omega), rdI a i hia, rdI b i h, if_pos e, wrN i (by omega)]
          · simp only [listC, e, cmpI_self, if_true]; exact ih
        · have e0 : cmpI a[i] b[i] ≠ 0 := fun h0 => e (cmpI_ord.eq0 _ _ h0)
          refine Ev.step (f := fun _ => some (cmpI a[i] b[i])) (fun k => ?_) ?_
          · simp only [q11z.j1]
            rw [if_pos trivial, if_pos (by omega), if_pos (by omega), if_pos (by omega), rdI a i hia, rdI b i h, if_neg e, (ha.2 _ (List.getElem_mem hia)).wr, (hb.2 _ (List.getElem_mem h)).wr, number_f, Option.bind_some]
          · simp only [listC, e0, if_false]; exact Ev.now _
    · refine Ev.step (f := fun k => q11z.j1 k a b (i : Int) false) (fun k => ?_) ?_
      · simp only [q11z.l0]
        rw [if_pos (by omega), decide_eq_false (by omega)]
      · refine Ev.step (f := fun _ => some (listC (a.drop i) (b.drop i))) (fun k => ?_) (Ev.now _)
        simp only [q11z.j1, Bool.false_eq_true, if_false, number_f, Option.bind_some, list_end a b i (by omega) hib (by omega)]
theorem list_ev (a b : List Int) (ha : LU a) (hb : LU b) : Ev (fun k => q11z.f k a b) (listC a b) := list_l0 a b ha hb a.length 0 (by omega) (by omega)
theorem cmp_step (c0 c1 c2 c3 c4 c5 c6 c7 : Int) (i : Nat) (hi : i < 8) (r : Int) (h : Ev (fun k => q12z.l0 k ((i + 1 : Nat) : Int) c0 c1 c2 c3 c4 c5 c6 c7) r) :
    Ev (fun k => q12z.l0 k (i : Int) c0 c1 c2 c3 c4 c5 c6 c7) (if arrA68 c0 c1 c2 c3 c4 c5 c6 c7 (i : Int) = 0 then r else arrA68 c0 c1 c2 c3 c4 c5 c6 c7 (i : Int)) := by
  by_cases e : arrA68 c0 c1 c2 c3 c4 c5 c6 c7 (i : Int) = 0
  · rw [if_pos e]
    refine Ev.step (f := fun k => q12z.l0 k ((i + 1 : Nat) : Int) c0 c1 c2 c3 c4 c5 c6 c7) (fun k => ?_) h
    simp only [q12z.l0]
    rw [if_pos (by omega), if_pos (by omega), if_pos e, wrN i (by omega)]
  · rw [if_neg e]
    refine Ev.step (f := fun _ => some (arrA68 c0 c1 c2 c3 c4 c5 c6 c7 (i : Int))) (fun k => ?_) (Ev.now _)
    simp only [q12z.l0]
    rw [if_pos (by omega), if_pos (by omega), if_neg e]
theorem cmp_l0 (c0 c1 c2 c3 c4 c5 c6 c7 : Int) : Ev (fun k => q12z.l0 k 0 c0 c1 c2 c3 c4 c5 c6 c7) (firstNZ [c0, c1, c2, c3, c4, c5, c6, c7]) := by
  have h8 : Ev (fun k => q12z.l0 k ((8 : Nat) : Int) c0 c1 c2 c3 c4 c5 c6 c7) 0 := Ev.step (f := fun _ => some 0) (fun k => rfl) (Ev.now _)
  exact cmp_step c0 c1 c2 c3 c4 c5 c6 c7 0 (by omega) _ (cmp_step c0 c1 c2 c3 c4 c5 c6 c7 1 (by omega) _ (cmp_step c0 c1 c2 c3 c4 c5 c6 c7 2 (by omega) _ (cmp_step c0 c1 c2 c3 c4 c5 c6 c7 3 (by omega) _ (cmp_step c0 c1 c2 c3 c4 c5 c6 c7 4 (by omega) _ (cmp_step c0 c1 c2 c3 c4 c5 c6 c7 5 (by omega) _ (cmp_step c0 c1 c2 c3 c4 c5 c6 c7 6 (by omega) _ (cmp_step c0 c1 c2 c3 c4 c5 c6 c7 7 (by omega) _ h8)))))))
/-- What a route's cells may hold. -/
def RU (a : R8) : Prop := U32 a.1 ∧ I64 a.2.1 ∧ LU a.2.2.1 ∧ LU a.2.2.2.1 ∧ U32 a.2.2.2.2.1 ∧ U32 a.2.2.2.2.2.1 ∧ I64 a.2.2.2.2.2.2.1 ∧ U32 a.2.2.2.2.2.2.2
theorem refCmp_ev (a b : R8) (ha : RU a) (hb : RU b) : Ev (fun k => q12z.f k a.1 a.2.1 a.2.2.1 a.2.2.2.1 a.2.2.2.2.1 a.2.2.2.2.2.1 a.2.2.2.2.2.2.1 a.2.2.2.2.2.2.2 b.1 b.2.1 b.2.2.1 b.2.2.2.1 b.2.2.2.2.1 b.2.2.2.2.2.1 b.2.2.2.2.2.2.1 b.2.2.2.2.2.2.2) (cmpR a b) := by
  obtain ⟨a0, a1, a2, a3, a4, a5, a6, a7⟩ := ha
  obtain ⟨b0, b1, b2, b3, b4, b5, b6, b7⟩ := hb
  obtain ⟨K1, e1⟩ := list_ev a.2.2.1 b.2.2.1 a2 b2
  obtain ⟨K2, e2⟩ := list_ev a.2.2.2.1 b.2.2.2.1 a3 b3
  obtain ⟨K3, e3⟩ := cmp_l0 (cmpI a.1 b.1) (cmpI a.2.1 b.2.1) (listC a.2.2.1 b.2.2.1) (listC a.2.2.2.1 b.2.2.2.1) (cmpI a.2.2.2.2.1 b.2.2.2.2.1) (cmpI a.2.2.2.2.2.1 b.2.2.2.2.2.1) (cmpI a.2.2.2.2.2.2.1 b.2.2.2.2.2.2.1) (cmpI a.2.2.2.2.2.2.2 b.2.2.2.2.2.2.2)
  refine ⟨K1 + K2 + K3, fun k hk => ?_⟩
  simp only [q12z.f, number_f, a0.wr, b0.wr, a4.wr, b4.wr, a5.wr, b5.wr, a7.wr, b7.wr, e1 k (by omega), e2 k (by omega), Option.bind_some]
  exact e3 k (by omega)
end Go.Proofs.Ytgelpccjdndfoaa.P

namespace Go.Proofs.Ytgelpccjdndfoaa.P
open Go.RowKit Go.Proofs.YtgelpccjdndfoaaW.PrintWords
/-! Eventually: facts of callees used at the same round. -/
theorem Ev.use {α β : Type} {g : Nat → Option α} {F G : Nat → Option β} {a : α} {r : β} (h : Ev g a) (hG : Ev G r) (hF : ∀ k, g k = some a → F (k + 1) = G k) : Ev F r := by
  obtain ⟨K, h⟩ := h
  obtain ⟨K', hG⟩ := hG
  refine ⟨max K K' + 1, fun n hn => ?_⟩
  obtain ⟨m, rfl⟩ : ∃ m, n = m + 1 := ⟨n - 1, by omega⟩
  rw [hF m (h m (by omega))]
  exact hG m (by omega)
theorem Ev.use2 {α α' β : Type} {g : Nat → Option α} {g' : Nat → Option α'} {F G : Nat → Option β} {a : α} {a' : α'} {r : β} (h : Ev g a) (h' : Ev g' a') (hG : Ev G r) (hF : ∀ k, g k = some a → g' k = some a' → F (k + 1) = G k) : Ev F r := by
  obtain ⟨K, h⟩ := h
  obtain ⟨K2, h'⟩ := h'
  obtain ⟨K', hG⟩ := hG
  refine ⟨max (max K K2) K' + 1, fun n hn => ?_⟩
  obtain ⟨m, rfl⟩ : ∃ m, n = m + 1 := ⟨n - 1, by omega⟩
  rw [hF m (h m (by omega)) (h' m (by omega))]
  exact hG m (by omega)
/-- The same without a step. -/
theorem Ev.with {α β : Type} {g : Nat → Option α} {F G : Nat → Option β} {a : α} {r : β} (h : Ev g a) (hG : Ev G r) (hF : ∀ k, g k = some a → F k = G k) : Ev F r := by
  obtain ⟨K, h⟩ := h
  obtain ⟨K', hG⟩ := hG
  exact ⟨max K K', fun n hn => by rw [hF n (h n (by omega))]; exact hG n (by omega)⟩
theorem Ev.with2 {α α' β : Type} {g : Nat → Option α} {g' : Nat → Option α'} {F G : Nat → Option β} {a : α} {a' : α'} {r : β} (h : Ev g a) (h' : Ev g' a') (hG : Ev G r) (hF : ∀ k, g k = some a → g' k = some a' → F k = G k) : Ev F r := by
  obtain ⟨K, h⟩ := h
  obtain ⟨K2, h'⟩ := h'
  obtain ⟨K', hG⟩ := hG
  exact ⟨max (max K K2) K', fun n hn => by rw [hF n (h n (by omega)) (h' n (by omega))]; exact hG n (by omega)⟩
/-- The last step. -/
theorem Ev.last {β : Type} {F : Nat → Option β} {r : β} (hF : ∀ k, F (k + 1) = some r) : Ev F r := ⟨1, fun n hn => by
  obtain ⟨m, rfl⟩ : ∃ m, n = m + 1 := ⟨n - 1, by omega⟩
  exact hF m⟩
/-- As a pair, of two. -/
theorem Ev.and {α α' : Type} {g : Nat → Option α} {g' : Nat → Option α'} {a : α} {a' : α'} (h : Ev g a) (h' : Ev g' a') : ∃ K, ∀ k, K ≤ k → g k = some a ∧ g' k = some a' := by
  obtain ⟨K, h⟩ := h
  obtain ⟨K2, h'⟩ := h'
  exact ⟨max K K2, fun k hk => ⟨h k (by omega), h' k (by omega)⟩⟩
end Go.Proofs.Ytgelpccjdndfoaa.P

namespace Go.Proofs.Ytgelpccjdndfoaa.P
open Go.RowKit Go.Proofs.YtgelpccjdndfoaaW.PrintWords Go.Proofs.YtgelpccjdndfoaaW.PrintMore
set_option linter.unusedVariables false
set_option linter.unusedSimpArgs false
/-! Lists of communities: what the code and the document say. -/
def BoxU (b : S50) : Prop := U32 b.f0 ∧ U32 b.f1
theorem boxU_of {b : S50} (h : good50 b) : BoxU b := ⟨u32_of h.1, u32_of h.2⟩
def inS (n : Int) (s : S50) : Bool := inB s.f0.toNat s.f1.toNat n.toNat
theorem in_f (b : S50) (hb : BoxU b) (c : Int) (hc : U32 c) : plane_In.f b.f0 b.f1 c = some (inS c b) := by
  have h1 : u32B b.f0 = true := by unfold u32B; have := hb.1; unfold U32 at this; simp; omega
  have h2 : u32B b.f1 = true := by unfold u32B; have := hb.2; unfold U32 at this; simp; omega
  have h3 : u32B c = true := by unfold u32B; unfold U32 at hc; simp; omega
  unfold plane_In.f
  rw [h1, h2, h3, if_pos (by rfl)]
  rfl
def hasB (b : S50) (cs : List Int) : Bool := cs.any (fun c => inS c b)
def allB (l : List S50) (cs : List Int) : Bool := l.all (fun b => hasB b cs)
def takesB : List S53 → List Int → Bool
  | [], _ => false
  | e :: l, cs => if allB e.f1 cs = true then !e.f0 else takesB l cs
def EntU (e : S53) : Prop := e.f1.length ≤ 9223372036854775807 ∧ ∀ b ∈ e.f1, BoxU b
def ComU (l : List S53) : Prop := l.length ≤ 9223372036854775807 ∧ ∀ e ∈ l, EntU e
theorem comU_of {l : List S53} (h : l.length ≤ 9223372036854775807 ∧ ∀ z_ ∈ l, good53 z_) : ComU l := ⟨h.1, fun e he => ⟨(h.2 e he).2.1, fun b hb => boxU_of ((h.2 e he).2.2 b hb)⟩⟩
theorem has_f (b : S50) (hb : BoxU b) (cs : List Int) (hc : LU cs) : cond_has.f b.f0 b.f1 cs = some (hasB b cs) := by
  unfold cond_has.f
  rw [if_pos hc.1]
  exact anyM_some _ _ cs (fun c h => in_f b hb c (hc.2 c h))
theorem not_any_not {α : Type} (l : List α) (p : α → Bool) : (!l.any (fun b => !p b)) = l.all p := by
  induction l with
  | nil => rfl
  | cons a l ih => simp only [List.any_cons, List.all_cons, Bool.not_or, Bool.not_not, ih]
theorem ent_f (e : S53) (he : EntU e) (cs : List Int) (hc : LU cs) : entM cs e = some (allB e.f1 cs) := by
  unfold entM
  rw [if_pos he.1, anyM_some _ (fun b => !hasB b cs) e.f1 (fun b hb => by rw [has_f b (he.2 b hb) cs hc]; rfl), Option.map_some, not_any_not]
  rfl
theorem takes_f0 (cs : List Int) (hc : LU cs) : ∀ l : List S53, (∀ e ∈ l, EntU e) → takesM cs l = some (takesB l cs)
  | [], _ => rfl
  | e :: l, h => by
    simp only [takesM, takesB]
    rw [ent_f e (h e List.mem_cons_self) cs hc, Option.bind_some]
    cases allB e.f1 cs with
    | true => rfl
    | false => simp only [Bool.false_eq_true, if_false]; exact takes_f0 cs hc l (fun x hx => h x (List.mem_cons_of_mem _ hx))
theorem takes_f (l : List S53) (hl : ComU l) (cs : List Int) (hc : LU cs) : cond_TakesComms.f l cs = some (takesB l cs) := by
  unfold cond_TakesComms.f
  rw [if_pos hl.1]
  exact takes_f0 cs hc l hl.2
end Go.Proofs.Ytgelpccjdndfoaa.P

namespace Go.Proofs.Ytgelpccjdndfoaa.P
open Go.Sort
set_option linter.unusedVariables false
/-! A sorted list with what is alike left out. -/
def cmpU (l : List Int) : List Int := Go.Lib.compactUpTo l.toArray l.length
theorem getB (l : List Int) (i : Nat) (h : i < l.length) : l.toArray[i]! = l[i] := by
  rw [getElem!_pos l.toArray i (by simpa using h)]
  simp
theorem cmpU_lt (l : List Int) (h : l.Pairwise (fun a b : Int => a ≤ b)) : (cmpU l).Pairwise (fun a b : Int => a < b) := by
  unfold cmpU Go.Lib.compactUpTo
  rw [List.pairwise_map, List.pairwise_filter, List.pairwise_iff_getElem]
  intro i j hi hj hij
  simp only [List.getElem_range]
  intro ki kj
  rw [List.length_range] at hi hj
  rw [List.pairwise_iff_getElem] at h
  simp only [Go.Lib.keeps, decide_eq_true_eq] at kj
  rcases kj with kj | kj
  · omega
  · have e : j - 1 + 1 = j := by omega
    rw [getB l i hi, getB l j hj]
    rw [getB l j hj, getB l (j - 1) (by omega)] at kj
    have h1 := h (j - 1) j (by omega) hj (by omega)
    rcases Nat.lt_or_ge i (j - 1) with h2 | h2
    · have h3 := h i (j - 1) hi (by omega) h2
      omega
    · have e2 : i = j - 1 := by omega
      subst e2
      omega
theorem cmpU_sub (l : List Int) (x : Int) (hx : x ∈ cmpU l) : x ∈ l := by
  unfold cmpU Go.Lib.compactUpTo at hx
  rw [List.mem_map] at hx
  obtain ⟨i, hi, rfl⟩ := hx
  have hi' := List.mem_range.1 (List.mem_filter.1 hi).1
  rw [getB l i hi']
  exact List.getElem_mem hi'
theorem cmpU_sup (l : List Int) : ∀ i (h : i < l.length), l[i] ∈ cmpU l := by
  intro i
  induction i with
  | zero =>
    intro h
    unfold cmpU Go.Lib.compactUpTo
    rw [List.mem_map]
    exact ⟨0, List.mem_filter.2 ⟨List.mem_range.2 h, by simp [Go.Lib.keeps]⟩, getB l 0 h⟩
  | succ i ih =>
    intro h
    by_cases e : l[i + 1] = l[i]
    · rw [e]; exact ih (by omega)
    · unfold cmpU Go.Lib.compactUpTo
      rw [List.mem_map]
      refine ⟨i + 1, List.mem_filter.2 ⟨List.mem_range.2 h, ?_⟩, getB l (i + 1) h⟩
      simp only [Go.Lib.keeps, decide_eq_true_eq]
      refine .inr ?_
      rw [getB l (i + 1) h, Nat.add_sub_cancel, getB l i (by omega)]
      exact e
theorem cmpU_mem (l : List Int) (x : Int) : x ∈ cmpU l ↔ x ∈ l := by
  constructor
  · exact cmpU_sub l x
  · intro h
    obtain ⟨i, hi, rfl⟩ := List.getElem_of_mem h
    exact cmpU_sup l i hi
theorem cmpU_le (l : List Int) : (cmpU l).length ≤ l.length := by
  unfold cmpU Go.Lib.compactUpTo
  rw [List.length_map]
  exact Nat.le_trans (List.length_filter_le _ _) (by simp)
theorem lt_unique : ∀ (l r : List Int), l.Pairwise (fun a b : Int => a < b) → r.Pairwise (fun a b : Int => a < b) → (∀ x, x ∈ l ↔ x ∈ r) → l = r
  | [], [], _, _, _ => rfl
  | [], y :: t, _, _, h => by have := (h y).2 (List.mem_cons_self ..); simp at this
  | x :: s, [], _, _, h => by have := (h x).1 (List.mem_cons_self ..); simp at this
  | x :: s, y :: t, h1, h2, h => by
    rw [List.pairwise_cons] at h1 h2
    have hxy : x = y := by
      rcases List.mem_cons.1 ((h x).1 (List.mem_cons_self ..)) with e | e
      · exact e
      · rcases List.mem_cons.1 ((h y).2 (List.mem_cons_self ..)) with e2 | e2
        · exact e2.symm
        · have a1 := h2.1 x e
          have a2 := h1.1 y e2
          omega
    subst hxy
    rw [lt_unique s t h1.2 h2.2]
    intro z
    constructor
    · intro hz
      rcases List.mem_cons.1 ((h z).1 (List.mem_cons_of_mem _ hz)) with e | e
      · have := h1.1 z hz; omega
      · exact e
    · intro hz
      rcases List.mem_cons.1 ((h z).2 (List.mem_cons_of_mem _ hz)) with e | e
      · have := h2.1 z hz; omega
      · exact e
/-- A list's numbers, each once, rising. -/
def setU (l : List Int) : List Int := cmpU (sortU l)
theorem setU_lt (l : List Int) : (setU l).Pairwise (fun a b : Int => a < b) := cmpU_lt _ (sortU_pair l)
theorem setU_mem (l : List Int) (x : Int) : x ∈ setU l ↔ x ∈ l := (cmpU_mem _ x).trans (sortU_mem l x)
theorem setU_le (l : List Int) : (setU l).length ≤ l.length := Nat.le_trans (cmpU_le _) (Nat.le_of_eq (sortU_len l))
end Go.Proofs.Ytgelpccjdndfoaa.P

namespace Go.Proofs.Ytgelpccjdndfoaa.P
open Go.RowKit
set_option linter.unusedVariables false
set_option linter.unusedSimpArgs false
end Go.Proofs.Ytgelpccjdndfoaa.P

namespace Go.Proofs.Ytgelpccjdndfoaa.P
open Go.RowKit Go.Proofs.YtgelpccjdndfoaaW.PrintWords Go.Proofs.YtgelpccjdndfoaaW.PrintMore
set_option linter.unusedVariables false
set_option linter.unusedSimpArgs false
end Go.Proofs.Ytgelpccjdndfoaa.P

namespace Go.Proofs.Ytgelpccjdndfoaa.P
open Go.RowKit Go.Proofs.YtgelpccjdndfoaaW.PrintWords Go.Proofs.YtgelpccjdndfoaaW.PrintMore
set_option linter.unusedVariables false
set_option linter.unusedSimpArgs false
/-! Is there a zero? -/
def hasZ (l : List Int) : Bool := l.any (fun z => decide (z = 0))
theorem index_l0 (l : List Int) (hl : l.length ≤ 9223372036854775807) : ∀ (d i : Nat), i + d = l.length → ∃ r : Int, Ev (fun k => q3z.l0 k l 0 (l.length : Int) (i : Int)) r ∧ decide (r ≥ 0) = hasZ (l.drop i)
  | 0, i, hi => by
    refine ⟨-1, Ev.step (f := fun _ => some (-1)) (fun k => ?_) (Ev.now _), ?_⟩
    · simp only [q3z.l0]
      rw [if_neg (by omega)]
    · rw [drop_ge l i (by omega)]; rfl
  | d + 1, i, hi => by
    have h : i < l.length := by omega
    rw [List.drop_eq_getElem_cons h]
    by_cases e : l[i] = 0
    · refine ⟨i, Ev.step (f := fun _ => some (i : Int)) (fun k => ?_) (Ev.now _), ?_⟩
      · simp only [q3z.l0]
        rw [if_pos (by omega), if_pos (by omega), if_pos (by omega), rdI l i h, if_pos e.symm]
      · simp [hasZ, e]
    · obtain ⟨r, h1, h2⟩ := index_l0 l hl d (i + 1) (by omega)
      refine ⟨r, Ev.step (f := fun k => q3z.l0 k l 0 (l.length : Int) ((i + 1 : Nat) : Int)) (fun k => ?_) h1, ?_⟩
      · simp only [q3z.l0]
        rw [if_pos (by omega), if_pos (by omega), if_pos (by omega), rdI l i h, if_neg (fun z => e z.symm), wrN i (by omega)]
      · rw [h2]; simp only [hasZ, List.any_cons, e, decide_false, Bool.false_or]
theorem contains_ev (l : List Int) (hl : l.length ≤ 9223372036854775807) : Ev (fun k => q4z.f k l 0) (hasZ l) := by
  obtain ⟨r, ⟨K, h1⟩, h2⟩ := index_l0 l hl l.length 0 (by omega)
  rw [List.drop_zero] at h2
  refine ⟨K, fun k hk => ?_⟩
  have := h1 k hk
  unfold q4z.f q3z.f
  exact (congrArg (fun z => Option.bind z fun t => some (decide (t ≥ 0))) this).trans (congrArg some h2)
end Go.Proofs.Ytgelpccjdndfoaa.P

namespace Go.Proofs.Ytgelpccjdndfoaa.P
open Go.RowKit Go.Proofs.YtgelpccjdndfoaaW.PrintWords Go.Proofs.YtgelpccjdndfoaaW.PrintMore
set_option linter.unusedVariables false
set_option linter.unusedSimpArgs false
/-! Actions: what the code and the document make. -/
abbrev AC := S26
def AU (a : AC) : Prop := I64 a.f0 ∧ U32 a.f1 ∧ LU a.f2 ∧ ComU a.f3
theorem aU_of {a : AC} (h : good26 a) : AU a := ⟨i64_of h.1, u32_of h.2.1, lu_of h.2.2.1, comU_of h.2.2.2⟩
def rightB (a : AC) : Bool :=
  if a.f0 = 1 ∨ a.f0 = 2 ∨ a.f0 = 4 then true else if a.f0 = 3 then decide (a.f1 ≤ 2) else if a.f0 = 5 then decide (a.f2.length ≤ 64) && !hasZ a.f2 else if a.f0 = 6 ∨ a.f0 = 7 then decide (a.f2.length ≤ 64) else if a.f0 = 8 then commsRight a.f3 else false
theorem act_right_j0 (a : AC) (ha : AU a) (h1 : a.f0 ≠ 1) (h2 : a.f0 ≠ 2) (g : Bool) (hg : g = (a.f0 == 4)) : Ev (fun k => q5z.j0 k (decide ((a.f2.length : Int) ≤ 64)) a.f0 g a.f0 a.f1 a.f2 a.f3) (rightB a) := by
  have hd : decide ((a.f2.length : Int) ≤ 64) = decide (a.f2.length ≤ 64) := decide_eq_decide.2 (by omega)
  rw [hd, hg]
  unfold rightB
  by_cases h4 : a.f0 = 4
  · rw [if_pos (.inr (.inr h4))]
    refine Ev.last (fun k => ?_)
    simp only [q5z.j0]
    rw [if_pos (by simp [h4])]
  · rw [if_neg (by omega)]
    by_cases h3 : a.f0 = 3
    · rw [if_pos h3]
      refine Ev.last (fun k => ?_)
      simp only [q5z.j0]
      rw [if_neg (by simp [h4]), if_pos h3]
    · rw [if_neg h3]
      by_cases h5 : a.f0 = 5
      · rw [if_pos h5]
        refine Ev.use (contains_ev a.f2 ha.2.2.1.1) (Ev.now _) (fun k e => ?_)
        simp only [q5z.j0]
        rw [if_neg (by simp [h4]), if_neg h3, if_pos h5]
        cases decide (a.f2.length ≤ 64) with
        | true => rw [if_pos rfl, e]; simp
        | false => rfl
      · rw [if_neg h5]
        have hj : ∀ g2 : Bool, (g2 = true → a.f0 = 6 ∨ a.f0 = 7) → (g2 = false → ¬ (a.f0 = 6 ∨ a.f0 = 7)) → Ev (fun k => q5z.j1 k (decide (a.f2.length ≤ 64)) a.f0 g2 a.f0 a.f1 a.f2 a.f3) (if a.f0 = 6 ∨ a.f0 = 7 then decide (a.f2.length ≤ 64) else if a.f0 = 8 then commsRight a.f3 else false) := fun g2 q1 q2 => by
          refine Ev.last (fun k => ?_)
          simp only [q5z.j1]
          cases g2 with
          | true => rw [if_pos rfl, if_pos (q1 rfl)]
          | false =>
            rw [if_neg (by decide), if_neg (q2 rfl)]
            by_cases h8 : a.f0 = 8
            · rw [if_pos h8, if_pos h8]; rfl
            · rw [if_neg h8, if_neg h8]
        by_cases h6 : a.f0 = 6
        · refine Ev.step (fun k => ?_) (hj (a.f0 == 6) (fun h => .inl (by simpa using h)) (fun h => by simp [h6] at h))
          simp only [q5z.j0]
          rw [if_neg (by simp [h4]), if_neg h3, if_neg h5, if_pos h6]
        · refine Ev.step (fun k => ?_) (hj (a.f0 == 7) (fun h => .inr (by simpa using h)) (fun h => by simp at h; omega))
          simp only [q5z.j0]
          rw [if_neg (by simp [h4]), if_neg h3, if_neg h5, if_neg h6]
theorem actRight_ev (a : AC) (ha : AU a) : Ev (fun k => q5z.f k a.f0 a.f1 a.f2 a.f3) (rightB a) := by
  have hb : ∀ g : Bool, g = true → (a.f0 = 1 ∨ a.f0 = 2) → Ev (fun k => q5z.j0 k (decide ((a.f2.length : Int) ≤ 64)) a.f0 g a.f0 a.f1 a.f2 a.f3) (rightB a) := fun g hg h => by
    unfold rightB
    rw [if_pos (by omega)]
    refine Ev.last (fun k => ?_)
    simp only [q5z.j0]
    rw [if_pos hg]
  by_cases h1 : a.f0 = 1
  · refine Ev.congr (fun k => ?_) (hb (a.f0 == 1) (by simp [h1]) (.inl h1))
    unfold q5z.f
    rw [if_pos h1]
  · by_cases h2 : a.f0 = 2
    · refine Ev.congr (fun k => ?_) (hb (a.f0 == 2) (by simp [h2]) (.inr h2))
      unfold q5z.f
      rw [if_neg h1, if_pos h2]
    · refine Ev.congr (fun k => ?_) (act_right_j0 a ha h1 h2 _ rfl)
      unfold q5z.f
      rw [if_neg h1, if_neg h2]
end Go.Proofs.Ytgelpccjdndfoaa.P

namespace Go.Proofs.Ytgelpccjdndfoaa.P
open Go.RowKit Go.Proofs.YtgelpccjdndfoaaW.PrintWords Go.Proofs.YtgelpccjdndfoaaW.PrintMore
set_option linter.unusedVariables false
set_option linter.unusedSimpArgs false
/-! A route with an action done. -/
def doR (a : AC) (r : R8) : R8 :=
  if rightB a = false then r
  else if a.f0 = 1 then (r.1, r.2.1, r.2.2.1, r.2.2.2.1, a.f1, r.2.2.2.2.2.1, r.2.2.2.2.2.2.1, r.2.2.2.2.2.2.2)
  else if a.f0 = 2 then (r.1, r.2.1, r.2.2.1, r.2.2.2.1, r.2.2.2.2.1, a.f1, r.2.2.2.2.2.2.1, r.2.2.2.2.2.2.2)
  else if a.f0 = 3 then (r.1, r.2.1, r.2.2.1, r.2.2.2.1, r.2.2.2.2.1, r.2.2.2.2.2.1, a.f1, r.2.2.2.2.2.2.2)
  else if a.f0 = 4 then (r.1, r.2.1, r.2.2.1, r.2.2.2.1, r.2.2.2.2.1, r.2.2.2.2.2.1, r.2.2.2.2.2.2.1, a.f1)
  else if a.f0 = 5 then (r.1, r.2.1, a.f2 ++ r.2.2.1, r.2.2.2.1, r.2.2.2.2.1, r.2.2.2.2.2.1, r.2.2.2.2.2.2.1, r.2.2.2.2.2.2.2)
  else if a.f0 = 6 then (r.1, r.2.1, r.2.2.1, setU (r.2.2.2.1 ++ a.f2), r.2.2.2.2.1, r.2.2.2.2.2.1, r.2.2.2.2.2.2.1, r.2.2.2.2.2.2.2)
  else if a.f0 = 7 then (r.1, r.2.1, r.2.2.1, setU a.f2, r.2.2.2.2.1, r.2.2.2.2.2.1, r.2.2.2.2.2.2.1, r.2.2.2.2.2.2.2)
  else (r.1, r.2.1, r.2.2.1, setU (r.2.2.2.1.filter (fun c => !takesB a.f3 [c])), r.2.2.2.2.1, r.2.2.2.2.2.1, r.2.2.2.2.2.2.1, r.2.2.2.2.2.2.2)
theorem rightB_len (a : AC) (h : rightB a = true) (h2 : a.f0 = 5 ∨ a.f0 = 6 ∨ a.f0 = 7) : a.f2.length ≤ 64 := by
  unfold rightB at h
  rw [if_neg (by omega), if_neg (by omega)] at h
  rcases h2 with h2 | h2 | h2
  · rw [if_pos h2, Bool.and_eq_true] at h
    exact of_decide_eq_true h.1
  · rw [if_neg (by omega), if_pos (.inl h2)] at h
    exact of_decide_eq_true h
  · rw [if_neg (by omega), if_pos (.inr h2)] at h
    exact of_decide_eq_true h
theorem rightB_kind (a : AC) (h : rightB a = true) : 1 ≤ a.f0 ∧ a.f0 ≤ 8 := by
  unfold rightB at h
  split at h
  · omega
  · split at h
    · omega
    · split at h
      · omega
      · split at h
        · omega
        · split at h
          · omega
          · simp at h
theorem rising_f (k : Nat) (t : List Int) (h : t.length ≤ 1000000000) : q8z.f k t = some (setU t) := by
  have h1 : Sort_u32.f k t = some (sortU t) := if_pos (by omega)
  have h2 : Compact_u32.f (sortU t) = some (setU t) := if_pos (by rw [sortU_len]; omega)
  unfold q8z.f
  rw [h1, Option.bind_some, h2, Option.bind_some]
theorem join_f (L : List (List Int)) (hl : L.length ≤ 1000) (h : sumLen L ≤ 1000000000) : q7z.f L = some L.flatten := by
  have h1 : slices_Concat_uint32_uint32.f L = some L.flatten := if_pos ⟨by omega, by omega⟩
  have h2 := sumLen_flat L
  unfold q7z.f
  rw [Option.bind_some, h1, Option.bind_some, if_pos (by simp only [List.length_nil]; omega), List.nil_append]
theorem copy_f (r : R8) (h1 : r.2.2.1.length ≤ 1000000000) (h2 : r.2.2.2.1.length ≤ 1000000000) : q6z.f r.1 r.2.1 r.2.2.1 r.2.2.2.1 r.2.2.2.2.1 r.2.2.2.2.2.1 r.2.2.2.2.2.2.1 r.2.2.2.2.2.2.2 = some r := by
  unfold q6z.f
  rw [Option.bind_some, if_pos (by simp only [List.length_nil]; omega), Option.bind_some, if_pos (by simp only [List.length_nil]; omega), List.nil_append, List.nil_append]
theorem refCopy_f (r : R8) (h1 : r.2.2.1.length ≤ 1000000000) (h2 : r.2.2.2.1.length ≤ 1000000000) : q2z.f r.1 r.2.1 r.2.2.1 r.2.2.2.1 r.2.2.2.2.1 r.2.2.2.2.2.1 r.2.2.2.2.2.2.1 r.2.2.2.2.2.2.2 = some r := by
  unfold q2z.f
  rw [Option.bind_some, if_pos (by simp only [List.length_nil]; omega), Option.bind_some, if_pos (by simp only [List.length_nil]; omega), List.nil_append, List.nil_append]
theorem lu_one {c : Int} (h : U32 c) : LU [c] := ⟨by simp, fun z hz => by rw [List.mem_singleton.1 hz]; exact h⟩
theorem del_f (a : AC) (ha : AU a) (cs : List Int) (hc : LU cs) : act_del.f cs a.f3 = some (cs.filter (fun c => !takesB a.f3 [c])) :=
  keepM_some _ _ cs (fun c h => takes_f a.f3 ha.2.2.2 [c] (lu_one (hc.2 c h)))
theorem do_ev (a : AC) (ha : AU a) (r : R8) (hc : LU r.2.2.2.1) (h1 : r.2.2.1.length ≤ 100000000) (h2 : r.2.2.2.1.length ≤ 100000000) :
    Ev (fun k => q9z.f k a.f0 a.f1 a.f2 a.f3 r.1 r.2.1 r.2.2.1 r.2.2.2.1 r.2.2.2.2.1 r.2.2.2.2.2.1 r.2.2.2.2.2.2.1 r.2.2.2.2.2.2.2) (doR a r) := by
  have hcp := copy_f r (by omega) (by omega)
  have hw : wrap64 a.f1 = a.f1 := ha.2.1.wr
  have hR := actRight_ev a ha
  cases hb : rightB a with
  | false =>
    refine Ev.with hR (Ev.now _) (fun k e => ?_)
    unfold q9z.f doR
    rw [hcp, Option.bind_some, e, Option.bind_some, hb, if_neg (by decide), if_pos rfl]
  | true =>
    rw [hb] at hR
    have hk := rightB_kind a hb
    unfold doR
    rw [hb, if_neg (by decide)]
    by_cases k1 : a.f0 = 1
    · refine Ev.with hR (Ev.now _) (fun k e => ?_)
      unfold q9z.f
      rw [hcp, Option.bind_some, e, Option.bind_some, if_pos rfl, if_pos k1, if_pos k1]
    rw [if_neg k1]
    by_cases k2 : a.f0 = 2
    · refine Ev.with hR (Ev.now _) (fun k e => ?_)
      unfold q9z.f
      rw [hcp, Option.bind_some, e, Option.bind_some, if_pos rfl, if_neg k1, if_pos k2, if_pos k2]
    rw [if_neg k2]
    by_cases k3 : a.f0 = 3
    · refine Ev.with hR (Ev.now _) (fun k e => ?_)
      unfold q9z.f
      rw [hcp, Option.bind_some, e, Option.bind_some, if_pos rfl, if_neg k1, if_neg k2, if_pos k3, if_pos k3, hw]
    rw [if_neg k3]
    by_cases k4 : a.f0 = 4
    · refine Ev.with hR (Ev.now _) (fun k e => ?_)
      unfold q9z.f
      rw [hcp, Option.bind_some, e, Option.bind_some, if_pos rfl, if_neg k1, if_neg k2, if_neg k3, if_pos k4, if_pos k4]
    rw [if_neg k4]
    by_cases k5 : a.f0 = 5
    · have hl := rightB_len a hb (.inl k5)
      refine Ev.with hR (Ev.now _) (fun k e => ?_)
      unfold q9z.f
      rw [hcp, Option.bind_some, e, Option.bind_some, if_pos rfl, if_neg k1, if_neg k2, if_neg k3, if_neg k4, if_pos k5, if_pos k5, join_f [a.f2, r.2.2.1] (by simp) (by simp [sumLen]; omega), Option.bind_some]
      simp
    rw [if_neg k5]
    by_cases k6 : a.f0 = 6
    · have hl := rightB_len a hb (.inr (.inl k6))
      refine Ev.with hR (Ev.now _) (fun k e => ?_)
      unfold q9z.f
      rw [hcp, Option.bind_some, e, Option.bind_some, if_pos rfl, if_neg k1, if_neg k2, if_neg k3, if_neg k4, if_neg k5, if_pos k6, if_pos k6, join_f [r.2.2.2.1, a.f2] (by simp) (by simp [sumLen]; omega), Option.bind_some, rising_f k _ (by simp; omega), Option.bind_some]
      simp
    rw [if_neg k6]
    by_cases k7 : a.f0 = 7
    · have hl := rightB_len a hb (.inr (.inr k7))
      refine Ev.with hR (Ev.now _) (fun k e => ?_)
      unfold q9z.f
      rw [hcp, Option.bind_some, e, Option.bind_some, if_pos rfl, if_neg k1, if_neg k2, if_neg k3, if_neg k4, if_neg k5, if_neg k6, if_pos k7, if_pos k7, join_f [a.f2] (by simp) (by simp [sumLen]; omega), Option.bind_some, rising_f k _ (by simp; omega), Option.bind_some]
      simp
    rw [if_neg k7]
    have k8 : a.f0 = 8 := by omega
    have hfl := List.length_filter_le (fun c => !takesB a.f3 [c]) r.2.2.2.1
    refine Ev.with hR (Ev.now _) (fun k e => ?_)
    unfold q9z.f
    rw [hcp, Option.bind_some, e, Option.bind_some, if_pos rfl, if_neg k1, if_neg k2, if_neg k3, if_neg k4, if_neg k5, if_neg k6, if_neg k7, if_pos k8, del_f a ha _ hc, Option.bind_some, rising_f k _ (by omega), Option.bind_some]
/-! What stays so, action by action. -/
def RB (n : Nat) (r : R8) : Prop := RU r ∧ r.2.2.1.length ≤ n ∧ r.2.2.2.1.length ≤ n
theorem doR_RB (a : AC) (ha : AU a) (r : R8) (n : Nat) (hn : n ≤ 100000000) (h : RB n r) : RB (n + 64) (doR a r) := by
  obtain ⟨⟨u0, u1, u2, u3, u4, u5, u6, u7⟩, l1, l2⟩ := h
  unfold doR
  cases hb : rightB a with
  | false => exact ⟨⟨u0, u1, u2, u3, u4, u5, u6, u7⟩, by rw [if_pos rfl]; omega, by rw [if_pos rfl]; omega⟩
  | true =>
    rw [if_neg (by decide)]
    have hk := rightB_kind a hb
    split
    · exact ⟨⟨u0, u1, u2, u3, ha.2.1, u5, u6, u7⟩, Nat.le_trans l1 (by omega), Nat.le_trans l2 (by omega)⟩
    split
    · exact ⟨⟨u0, u1, u2, u3, u4, ha.2.1, u6, u7⟩, Nat.le_trans l1 (by omega), Nat.le_trans l2 (by omega)⟩
    split
    · exact ⟨⟨u0, u1, u2, u3, u4, u5, by have := ha.2.1; unfold U32 at this; show I64 a.f1; unfold I64; omega, u7⟩, Nat.le_trans l1 (by omega), Nat.le_trans l2 (by omega)⟩
    split
    · exact ⟨⟨u0, u1, u2, u3, u4, u5, u6, ha.2.1⟩, Nat.le_trans l1 (by omega), Nat.le_trans l2 (by omega)⟩
    split
    · rename_i k5
      have hl := rightB_len a hb (.inl k5)
      have hlen : (a.f2 ++ r.2.2.1).length ≤ n + 64 := by rw [List.length_append]; omega
      exact ⟨⟨u0, u1, ⟨Nat.le_trans hlen (by omega), fun z hz => (List.mem_append.1 hz).elim (ha.2.2.1.2 z) (u2.2 z)⟩, u3, u4, u5, u6, u7⟩, hlen, Nat.le_trans l2 (by omega)⟩
    split
    · rename_i k6
      have hl := rightB_len a hb (.inr (.inl k6))
      have hlen : (setU (r.2.2.2.1 ++ a.f2)).length ≤ n + 64 := by have := setU_le (r.2.2.2.1 ++ a.f2); rw [List.length_append] at this; omega
      exact ⟨⟨u0, u1, u2, ⟨Nat.le_trans hlen (by omega), fun z hz => (List.mem_append.1 ((setU_mem _ z).1 hz)).elim (u3.2 z) (ha.2.2.1.2 z)⟩, u4, u5, u6, u7⟩, Nat.le_trans l1 (by omega), hlen⟩
    split
    · rename_i k7
      have hl := rightB_len a hb (.inr (.inr k7))
      have hlen : (setU a.f2).length ≤ n + 64 := by have := setU_le a.f2; omega
      exact ⟨⟨u0, u1, u2, ⟨Nat.le_trans hlen (by omega), fun z hz => ha.2.2.1.2 z ((setU_mem _ z).1 hz)⟩, u4, u5, u6, u7⟩, Nat.le_trans l1 (by omega), hlen⟩
    · have hfl := List.length_filter_le (fun c => !takesB a.f3 [c]) r.2.2.2.1
      have hlen : (setU (r.2.2.2.1.filter (fun c => !takesB a.f3 [c]))).length ≤ n + 64 := by have := setU_le (r.2.2.2.1.filter (fun c => !takesB a.f3 [c])); omega
      exact ⟨⟨u0, u1, u2, ⟨Nat.le_trans hlen (by omega), fun z hz => u3.2 z (List.mem_filter.1 ((setU_mem _ z).1 hz)).1⟩, u4, u5, u6, u7⟩, Nat.le_trans l1 (by omega), hlen⟩
/-! Is it more than is looked at? -/
theorem great_l1 (l : List S53) (hl : l.length ≤ 9223372036854775807) (a0 : Int) (P : List S92) (Q : List S76) (C : List S53) (lo hi_ : Int) : ∀ (d i : Nat) (x : Int), i + d = l.length → ∃ b, Ev (fun k => q16z.l1 k x l (l.length : Int) (i : Int) a0 P Q C lo hi_) b
  | 0, i, x, hi => ⟨_, Ev.last (fun k => by
    simp only [q16z.l1]
    rw [if_neg (by omega)])⟩
  | d + 1, i, x, hi => by
    by_cases h1 : (i : Int) > 100
    · refine ⟨true, Ev.last (fun k => ?_)⟩
      simp only [q16z.l1]
      rw [if_pos (by omega), if_pos (by omega), if_pos (by omega), if_pos h1]
    · by_cases h2 : wrap64 (x + mn ((rd_T53 l (i : Int)).f1.length : Int) 10000) > 3000
      · refine ⟨true, Ev.last (fun k => ?_)⟩
        simp only [q16z.l1]
        rw [if_pos (by omega), if_pos (by omega), if_pos (by omega), if_neg h1, if_pos h2]
      · obtain ⟨b, hb⟩ := great_l1 l hl a0 P Q C lo hi_ d (i + 1) (wrap64 (x + mn ((rd_T53 l (i : Int)).f1.length : Int) 10000)) (by omega)
        refine ⟨b, Ev.step (fun k => ?_) hb⟩
        simp only [q16z.l1]
        rw [if_pos (by omega), if_pos (by omega), if_pos (by omega), if_neg h1, if_neg h2, wrN i (by omega)]
theorem refGreat_ev (a : AC) (ha : AU a) : ∃ b, Ev (fun k => q17z.f k a.f0 a.f1 a.f2 a.f3) b := by
  by_cases h : (a.f2.length : Int) > 3000
  · exact ⟨true, Ev.congr (fun k => by unfold q17z.f; rw [if_pos h]) (Ev.now _)⟩
  · obtain ⟨b, hb⟩ := great_l1 a.f3 ha.2.2.2.1 0 [] [] a.f3 0 0 a.f3.length 0 0 (by omega)
    have h0 : Ev (fun k => q16z.f k 0 [] [] a.f3 0 0) b := by
      refine Ev.step (fun k => ?_) hb
      unfold q16z.f
      simp only [q16z.l0]
      rw [if_neg (by simp)]
      rfl
    refine ⟨b, Ev.with h0 (Ev.now _) (fun k e => ?_)⟩
    unfold q17z.f
    rw [if_neg h, e, Option.bind_some]
theorem greatR_f (r : R8) : q1z.f r.1 r.2.1 r.2.2.1 r.2.2.2.1 r.2.2.2.2.1 r.2.2.2.2.2.1 r.2.2.2.2.2.2.1 r.2.2.2.2.2.2.2 = some (decide (1000 < r.2.2.1.length ∨ 1000 < r.2.2.2.1.length)) := by
  unfold q1z.f
  by_cases h : (r.2.2.1.length : Int) > 1000
  · rw [if_pos h, decide_eq_true (.inl (by omega))]
  · rw [if_neg h]
    exact congrArg some (decide_eq_decide.2 (by omega))
end Go.Proofs.Ytgelpccjdndfoaa.P

namespace Go.Proofs.Ytgelpccjdndfoaa.P
open Go.RowKit Go.Proofs.YtgelpccjdndfoaaW.PrintWords Go.Proofs.YtgelpccjdndfoaaW.PrintMore
theorem alive_ev : Ev (fun k => q14z.f k) true := by
  refine ⟨60, fun k hk => ?_⟩
  obtain ⟨m, rfl⟩ : ∃ m, k = m + 60 := ⟨k - 60, by omega⟩
  kernel_rfl
end Go.Proofs.Ytgelpccjdndfoaa.P
