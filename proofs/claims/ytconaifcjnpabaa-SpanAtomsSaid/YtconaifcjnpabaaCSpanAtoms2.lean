/- Part of the proof of the law SpanAtoms: the functions that it reaches, by contract. -/
import Derived.Deep.Slices
import Derived.Lib.Hide
import Derived.Lib.SlicesCompact
import Derived.Test.YtconaifcjnpabaaCSpanAtoms0
import Derived.Test.YtconaifcjnpabaaCSpanAtoms1
namespace Go.Proofs.Ytconaifcjnpabaa.P
open Go.RowKit Go.Proofs.YtconaifcjnpabaaW.PrintWords Go.Proofs.YtconaifcjnpabaaW.PrintLast Go.Proofs.YtconaifcjnpabaaW.PrintMore
attribute [local go_sem] max2_int min2_int max_two min_two max_three min_three max_four min_four
set_option linter.unusedVariables false
set_option linter.unusedSimpArgs false

/-! ### dragomanref01_begins: function 24 -/
mutual
def q6z.l0 : Nat → List Int → List (List (S33)) → Int → Int → Option (List Int)
 | 0, _, _, _, _ => none
 | k + 1, x3, x9, x10, x11 => if x11 < x10 then (if 0 ≤ x11 then (if x11 < (x9.length : Int) then (q6z.l1 k x3 x9 x10 x11 (rd_L2 x9 x11) ((rd_L2 x9 x11).length : Int) 0) else (none)) else (none)) else (some x3)
def q6z.l1 : Nat → List Int → List (List (S33)) → Int → Int → List (S33) → Int → Int → Option (List Int)
 | 0, _, _, _, _, _, _, _ => none
 | k + 1, x3, x9, x10, x11, x15, x16, x17 => if x17 < x16 then (if 0 ≤ x17 then (if x17 < (x15.length : Int) then (if ((rd_T33 x15 x17).f0) > ((rd_T33 x15 x17).f1) then (q6z.l1 k x3 x9 x10 x11 x15 x16 (wrap64 (x17 + 1))) else ((q5z.f k x3 ((rd_T33 x15 x17).f0)).bind fun t7 => (if ((rd_T33 x15 x17).f1) < 4294967295 then ((q5z.f k t7 ((((rd_T33 x15 x17).f1) + 1) % 4294967296)).bind fun t10 => (q6z.l1 k t10 x9 x10 x11 x15 x16 (wrap64 (x17 + 1)))) else (q6z.l1 k t7 x9 x10 x11 x15 x16 (wrap64 (x17 + 1)))))) else (none)) else (none)) else (q6z.l0 k x3 x9 x10 (wrap64 (x11 + 1)))
end
def q6z.f (k : Nat) (l0 : List (List (S33))) : Option (List Int) := q6z.l0 k (([0] : List Int)) l0 (l0.length : Int) 0
theorem q6z.mono_l : ∀ k, (∀ y0 y1 y2 y3, LeO (q6z.l0 k y0 y1 y2 y3) (q6z.l0 (k + 1) y0 y1 y2 y3)) ∧ (∀ y0 y1 y2 y3 y4 y5 y6, LeO (q6z.l1 k y0 y1 y2 y3 y4 y5 y6) (q6z.l1 (k + 1) y0 y1 y2 y3 y4 y5 y6))
 | 0 => ⟨fun _ _ _ _ r h => by simp [q6z.l0] at h, fun _ _ _ _ _ _ _ r h => by simp [q6z.l1] at h⟩
 | k + 1 => by
  obtain ⟨ih0, ih1⟩ := q6z.mono_l k
  refine ⟨?_, ?_⟩
  ·
   intro y0 y1 y2 y3
   unfold q6z.l0
   repeat' first
   | (with_reducible exact ih0 _ _ _ _)
   | (with_reducible exact ih1 _ _ _ _ _ _ _)
   | (with_reducible exact q5z.mono _ _ _)
   | (with_reducible exact LeO.refl _)
   | (with_reducible exact LeO.none _)
   | (with_reducible refine LeO.ite ?_ ?_)
   | (with_reducible refine LeO.bind ?_ (fun _ => ?_))
   | exact ih0 _ _ _ _
   | exact ih1 _ _ _ _ _ _ _
   | exact q5z.mono _ _ _
   | exact LeO.none _
   | refine LeO.ite ?_ ?_
   | refine LeO.bind ?_ (fun _ => ?_)
  ·
   intro y0 y1 y2 y3 y4 y5 y6
   unfold q6z.l1
   repeat' first
   | (with_reducible exact ih0 _ _ _ _)
   | (with_reducible exact ih1 _ _ _ _ _ _ _)
   | (with_reducible exact q5z.mono _ _ _)
   | (with_reducible exact LeO.refl _)
   | (with_reducible exact LeO.none _)
   | (with_reducible refine LeO.ite ?_ ?_)
   | (with_reducible refine LeO.bind ?_ (fun _ => ?_))
   | exact ih0 _ _ _ _
   | exact ih1 _ _ _ _ _ _ _
   | exact q5z.mono _ _ _
   | exact LeO.none _
   | refine LeO.ite ?_ ?_
   | refine LeO.bind ?_ (fun _ => ?_)
theorem q6z.mono : ∀ a0 k, LeO (q6z.f k a0) (q6z.f (k + 1) a0) := by
 intro a0 k
 obtain ⟨ih0, ih1⟩ := q6z.mono_l k
 unfold q6z.f
 repeat' first
   | (with_reducible exact ih0 _ _ _ _)
   | (with_reducible exact ih1 _ _ _ _ _ _ _)
   | (with_reducible exact q5z.mono _ _ _)
   | (with_reducible exact LeO.refl _)
   | (with_reducible exact LeO.none _)
   | (with_reducible refine LeO.ite ?_ ?_)
   | (with_reducible refine LeO.bind ?_ (fun _ => ?_))
   | exact ih0 _ _ _ _
   | exact ih1 _ _ _ _ _ _ _
   | exact q5z.mono _ _ _
   | exact LeO.none _
   | refine LeO.ite ?_ ?_
   | refine LeO.bind ?_ (fun _ => ?_)
set_option maxHeartbeats 8000000 in
set_option maxRecDepth 100000 in
theorem q6z.calls (k : Nat) (A0 : Option Addr) (c0 : Nat) (l0 : List (List (S33))) (r : List Int) (w : World) (hr0 : Kd.C (Kd.slice 33 k33) w A0 l0.length l0) (hc0 : l0.length ≤ c0) (h : q6z.f k l0 = some r) :
  Calls Try.prog 24 #[.slice A0 l0.length c0] w fun e w' => ∃ v0_ : Value, e = .returned (v0_) ∧ Kd.R (Kd.int .u32) 29 w' w.heap.size (fun _ => True) v0_ r ∧ Below w.heap.size w w' := by
 have hu33 := Try.underlying33
 have HR0 := Aside0.mk hr0
 have HC0 := Aside0.mk hc0
 clear hr0 hc0
 have HB := Aside0.mk (Below.refl w.heap.size w)
 have H : (q6z.l0 k (([0] : List Int)) l0 (l0.length : Int) 0) = some r := h
 clear h
 obtain ⟨y1, hy1⟩ : ∃ y_ : List Int, y_ = (([0] : List Int)) := ⟨_, rfl⟩
 replace H : (q6z.l0 k y1 l0 (l0.length : Int) 0) = some r := by first | (rw [hy1]; with_reducible exact H) | (have H2_ := (Option.bind_some _ _).symm.trans H; rw [hy1]; with_reducible exact H2_) | (have H2_ := (Option.bind_some _ _).symm.trans H; with_reducible exact H2_) | with_reducible exact H | (rw [hy1]; exact H) | exact H
 have Ny1 := Aside0.mk hy1
 clear hy1
 have H' := Aside0.mk H
 clear H
 go_enter Try.func24, Try.ntmps24
 go_wp2_with (first | ((with_reducible refine gate_dst (N := 8) rfl ?_); refine Kd.R_lit (Kd.int .u32) _ 29 ?hg (N := 8) ?hd (xs := ([0] : List Int)) (inner := [.int .u32 0]) (ok := fun _ => True) (okp := fun _ => True) ?hr ?hp (fun _ hk => hk) trivial (Below.refl _ _) (Nat.le_refl _) (by simp) ?_; (case hd => rfl); (case hg => rfl); (case hr => first | (go_simp; done) | (go_simp; rfl)); (case hp => exact (Reps.one (show Kd.M (Kd.int .u32) _ _ _ 0 [.int .u32 0] from rfl) (Reps.none _ _))); intro v2 w2 ho3 hb hg_ hnew_; clear hg_ hnew_; (first | rw [← Ny1.out] at ho3 | (simp only [Int.reduceToNat] at ho3; rw [← Ny1.out] at ho3)); have n0_ := Aside0.mk (Kd.R_lower ho3 (below_size (by repeat (first | (with_reducible first | exact HB.out | apply below_alloc | apply pw_below_drewN | apply below_drew1) | exact HB.out)))); have n1_ := Aside0.mk (below_step (by repeat (first | (with_reducible first | exact HB.out | apply below_alloc | apply pw_below_drewN | apply below_drew1) | exact HB.out)) hb); clear HB; have HO3 := n0_; have HB := n1_; clear n0_ n1_; clear hb ho3))
 go_loopg [3, 11] k (fun kq v3 v11 w' => ∃ (x3_1 : List Int) (x11_1 : Int), v11 = .int .i64 x11_1 ∧ Aside0 (q6z.l0 kq x3_1 l0 (l0.length : Int) x11_1 = some r) ∧ Aside0 (kq ≤ k) ∧ Aside0 (Kd.R (Kd.int .u32) 29 w' w.heap.size (fun _ => True) v3 x3_1) ∧ Aside0 (Below w.heap.size w w'))
 case atStart => exact ⟨(y1), (0), (by first | rfl | (simp; done) | (simp [*]; done)), H', ⟨Nat.le_refl _⟩, ⟨by (with_reducible repeat (first | apply Kd.R_alloc | apply Kd.R_drewN | apply Kd.R_drew)); exact HO3.out⟩, ⟨by repeat (first | (with_reducible first | exact HB.out | apply below_alloc | apply pw_below_drewN | apply below_drew1) | exact HB.out)⟩⟩
 case round =>
  clear H'
  try clear c2
  try clear p2
  obtain ⟨x3_1, x11_1, rfl, HA, HK1, HO_3, HB⟩ := hrel
  cases gk with
  | zero => exact absurd HA.out (by simp [q6z.l0])
  | succ k1 =>
   have H := HA.out
   clear HA
   simp only [q6z.l0] at H
   by_cases c4 : x11_1 < (l0.length : Int)
   ·
    rw [if_pos c4] at H
    have c4b0 : decide (x11_1 < (l0.length : Int)) = true := decide_eq_true c4
    clear c4
    by_cases c5 : 0 ≤ x11_1
    ·
     rw [if_pos c5] at H
     have c5b0 : decide (0 ≤ x11_1) = true := decide_eq_true c5
     clear c5
     by_cases c6 : x11_1 < (l0.length : Int)
     ·
      rw [if_pos c6] at H
      have c6b0 : decide (x11_1 < (l0.length : Int)) = true := decide_eq_true c6
      clear c6
      have H' := Aside0.mk H
      clear H
      have p4 : 0 ≤ (x11_1 : Int) := of_decide_eq_true (by first | (with_reducible assumption) | assumption)
      have q4 : x11_1 < (l0.length : Int) := of_decide_eq_true (by first | (with_reducible assumption) | assumption)
      obtain ⟨ad4, A4_0, c4_0, e4, hx4_0, hl4_0, hi4_0⟩ := at_L2 HR0.out x11_1 p4 q4
      cases e4
      replace hx4_0 := (HB.out.cell (World.block_lt_of_cell? w _ hx4_0)).trans hx4_0
      have HR4_0 := Aside0.mk hi4_0
      have HC4_0 := Aside0.mk hl4_0
      clear hi4_0 hl4_0
      replace p4 := eq_true p4
      replace q4 := eq_true q4
      go_wp2
      go_loopg [3, 17] k1 (fun kq v3 v17 w' => ∃ (x3_2 : List Int) (x17_2 : Int), v17 = .int .i64 x17_2 ∧ Aside0 (q6z.l1 kq x3_2 l0 (l0.length : Int) x11_1 (rd_L2 l0 x11_1) ((rd_L2 l0 x11_1).length : Int) x17_2 = some r) ∧ Aside0 (kq ≤ k1) ∧ Aside0 (Kd.R (Kd.int .u32) 29 w' w.heap.size (fun _ => True) v3 x3_2) ∧ Aside0 (Below w.heap.size w w'))
      case atStart => exact ⟨(x3_1), (0), (by first | rfl | (simp; done) | (simp [*]; done)), H', ⟨Nat.le_refl _⟩, ⟨by (with_reducible repeat (first | apply Kd.R_alloc | apply Kd.R_drewN | apply Kd.R_drew)); exact HO_3.out⟩, ⟨by repeat (first | (with_reducible first | exact HB.out | apply below_alloc | apply pw_below_drewN | apply below_drew1) | exact HB.out)⟩⟩
      case round =>
       clear H'
       try clear c2
       try clear p2
       try clear c4
       try clear c4b0
       try clear p4
       try clear q4
       try clear hx4
       try clear c5
       try clear c5b0
       try clear c6
       try clear c6b0
       try clear hx4_0
       try clear p2
       try clear p4
       try clear q4
       obtain ⟨x3_2, x17_2, rfl, HA, HK2, HO_3, HB⟩ := hrel
       cases gk with
       | zero => exact absurd HA.out (by simp [q6z.l1])
       | succ k2 =>
        have H := HA.out
        clear HA
        simp only [q6z.l1] at H
        by_cases c7 : x17_2 < ((rd_L2 l0 x11_1).length : Int)
        ·
         rw [if_pos c7] at H
         have c7b0 : decide (x17_2 < ((rd_L2 l0 x11_1).length : Int)) = true := decide_eq_true c7
         clear c7
         by_cases c8 : 0 ≤ x17_2
         ·
          rw [if_pos c8] at H
          have c8b0 : decide (0 ≤ x17_2) = true := decide_eq_true c8
          clear c8
          by_cases c9 : x17_2 < ((rd_L2 l0 x11_1).length : Int)
          ·
           rw [if_pos c9] at H
           have c9b0 : decide (x17_2 < ((rd_L2 l0 x11_1).length : Int)) = true := decide_eq_true c9
           clear c9
           by_cases c10 : ((rd_T33 (rd_L2 l0 x11_1) x17_2).f0) > ((rd_T33 (rd_L2 l0 x11_1) x17_2).f1)
           ·
            rw [if_pos c10] at H
            have c10b0 : decide (((rd_T33 (rd_L2 l0 x11_1) x17_2).f1) < ((rd_T33 (rd_L2 l0 x11_1) x17_2).f0)) = true := decide_eq_true c10
            clear c10
            have H' := Aside0.mk H
            clear H
            have p5 : 0 ≤ (x17_2 : Int) := of_decide_eq_true (by first | (with_reducible assumption) | assumption)
            have q5 : x17_2 < ((rd_L2 l0 x11_1).length : Int) := of_decide_eq_true (by first | (with_reducible assumption) | assumption)
            obtain ⟨ad5, e5, hx5_0, hx5_1⟩ := at_T33 HR4_0.out x17_2 p5 q5
            cases e5
            replace hx5_0 := (HB.out.cell (World.block_lt_of_cell? w _ hx5_0)).trans hx5_0
            replace hx5_1 := (HB.out.cell (World.block_lt_of_cell? w _ hx5_1)).trans hx5_1
            replace p5 := eq_true p5
            replace q5 := eq_true q5
            go_wp2_with (first | ((with_reducible refine gate_dst (N := 7) rfl ?_); refine box_event ?hg (N := 7) ?hd (cs := #[.int .u32 0, .int .u32 0]) (t := 33) ?hr ?_; (case hd => rfl); (case hg => rfl); (case hr => first | (go_simp; done) | (go_simp; rfl)); intro gb6 hg w11 hbox hb; have n0_ := Aside0.mk (Kd.R_below (by (with_reducible repeat (first | apply Kd.R_alloc | apply Kd.R_drewN | apply Kd.R_drew)); exact HO_3.out) hb); have n1_ := Aside0.mk (below_step (by repeat (first | (with_reducible first | exact HB.out | apply below_alloc | apply pw_below_drewN | apply below_drew1) | exact HB.out)) hb); have n2_ := Aside0.mk (hbox); have n3_ := Aside0.mk ((by rw [hg]; exact (below_size (by repeat (first | (with_reducible first | exact HB.out | apply below_alloc | apply pw_below_drewN | apply below_drew1) | exact HB.out))) : w.heap.size ≤ gb6)); have n4_ := Aside0.mk ((by rw [hg]; exact (below_size (by repeat (first | (with_reducible first | exact HB.out | apply below_alloc | apply pw_below_drewN | apply below_drew1) | exact HB.out))) : w.heap.size ≤ gb6)); clear HO_3; clear HB; have HO_3 := n0_; have HB := n1_; have BK6 := n2_; have GW6 := n3_; have GE6 := n4_; clear n0_ n1_ n2_ n3_ n4_; clear hb hbox hg; have hcz12_0 : w11.cell? ⟨gb6, 0, none⟩ = some (.int .u32 0) := (blk_cell BK6.out 0).trans rfl; have hcz12_1 : w11.cell? ⟨gb6, 1, none⟩ = some (.int .u32 0) := (blk_cell BK6.out 1).trans rfl; have hfz12_0 := blk_frozen BK6.out 0; have hfz12_1 := blk_frozen BK6.out 1))
            go_roundg k2
            case measure => have := HK1.out; have := HK2.out; omega
            case rel => exact ⟨(x3_2), (wrap64 (x17_2 + 1)), (by first | rfl | (simp; done) | (simp [*]; done)), H', ⟨by have := HK1.out; have := HK2.out; omega⟩, ⟨by (with_reducible repeat (first | apply Kd.R_alloc | apply Kd.R_drewN | apply Kd.R_drew)); exact Kd.R_mono (Kd.R_far (p := ⟨gb6, 1, none⟩) (Kd.R_far (p := ⟨gb6, 0, none⟩) (Kd.R_types HO_3.out BK6.out (by decide)) (fun _ hk => hk.2) (.int .u32 ((rd_T33 (rd_L2 l0 x11_1) x17_2).f0))) (fun _ hk => hk.2) (.int .u32 ((rd_T33 (rd_L2 l0 x11_1) x17_2).f1))) (fun _ hk => trivial)⟩, ⟨by repeat (first | (with_reducible first | exact HB.out | apply below_alloc | apply pw_below_drewN | apply below_drew1 | refine below_set ?_ GE6.out) | exact HB.out)⟩⟩
           ·
            rw [if_neg c10] at H
            have c10b0 : decide (((rd_T33 (rd_L2 l0 x11_1) x17_2).f1) < ((rd_T33 (rd_L2 l0 x11_1) x17_2).f0)) = false := decide_eq_false c10
            clear c10
            replace H := Option.bind_eq_some_iff.mp H
            obtain ⟨t7, A130, H⟩ := H
            replace H : (if ((rd_T33 (rd_L2 l0 x11_1) x17_2).f1) < 4294967295 then ((q5z.f k2 t7 ((((rd_T33 (rd_L2 l0 x11_1) x17_2).f1) + 1) % 4294967296)).bind fun t10 => (q6z.l1 k2 t10 l0 (l0.length : Int) x11_1 (rd_L2 l0 x11_1) ((rd_L2 l0 x11_1).length : Int) (wrap64 (x17_2 + 1)))) else (q6z.l1 k2 t7 l0 (l0.length : Int) x11_1 (rd_L2 l0 x11_1) ((rd_L2 l0 x11_1).length : Int) (wrap64 (x17_2 + 1)))) = some r := H
            have A13 := Aside0.mk A130
            clear A130
            by_cases c14 : ((rd_T33 (rd_L2 l0 x11_1) x17_2).f1) < 4294967295
            ·
             rw [if_pos c14] at H
             have c14b0 : decide (((rd_T33 (rd_L2 l0 x11_1) x17_2).f1) < 4294967295) = true := decide_eq_true c14
             clear c14
             replace H := Option.bind_eq_some_iff.mp H
             obtain ⟨t10, A150, H⟩ := H
             replace H : (q6z.l1 k2 t10 l0 (l0.length : Int) x11_1 (rd_L2 l0 x11_1) ((rd_L2 l0 x11_1).length : Int) (wrap64 (x17_2 + 1))) = some r := H
             have A15 := Aside0.mk A150
             clear A150
             have H' := Aside0.mk H
             clear H
             have p5 : 0 ≤ (x17_2 : Int) := of_decide_eq_true (by first | (with_reducible assumption) | assumption)
             have q5 : x17_2 < ((rd_L2 l0 x11_1).length : Int) := of_decide_eq_true (by first | (with_reducible assumption) | assumption)
             obtain ⟨ad5, e5, hx5_0, hx5_1⟩ := at_T33 HR4_0.out x17_2 p5 q5
             cases e5
             replace hx5_0 := (HB.out.cell (World.block_lt_of_cell? w _ hx5_0)).trans hx5_0
             replace hx5_1 := (HB.out.cell (World.block_lt_of_cell? w _ hx5_1)).trans hx5_1
             replace p5 := eq_true p5
             replace q5 := eq_true q5
             go_wp2_with (first | ((with_reducible refine gate_dst (N := 7) rfl ?_); refine box_event ?hg (N := 7) ?hd (cs := #[.int .u32 0, .int .u32 0]) (t := 33) ?hr ?_; (case hd => rfl); (case hg => rfl); (case hr => first | (go_simp; done) | (go_simp; rfl)); intro gb6 hg w16 hbox hb; have n0_ := Aside0.mk (Kd.R_below (by (with_reducible repeat (first | apply Kd.R_alloc | apply Kd.R_drewN | apply Kd.R_drew)); exact HO_3.out) hb); have n1_ := Aside0.mk (below_step (by repeat (first | (with_reducible first | exact HB.out | apply below_alloc | apply pw_below_drewN | apply below_drew1) | exact HB.out)) hb); have n2_ := Aside0.mk (hbox); have n3_ := Aside0.mk ((by rw [hg]; exact (below_size (by repeat (first | (with_reducible first | exact HB.out | apply below_alloc | apply pw_below_drewN | apply below_drew1) | exact HB.out))) : w.heap.size ≤ gb6)); have n4_ := Aside0.mk ((by rw [hg]; exact (below_size (by repeat (first | (with_reducible first | exact HB.out | apply below_alloc | apply pw_below_drewN | apply below_drew1) | exact HB.out))) : w.heap.size ≤ gb6)); clear HO_3; clear HB; have HO_3 := n0_; have HB := n1_; have BK6 := n2_; have GW6 := n3_; have GE6 := n4_; clear n0_ n1_ n2_ n3_ n4_; clear hb hbox hg; have hcz17_0 : w16.cell? ⟨gb6, 0, none⟩ = some (.int .u32 0) := (blk_cell BK6.out 0).trans rfl; have hcz17_1 : w16.cell? ⟨gb6, 1, none⟩ = some (.int .u32 0) := (blk_cell BK6.out 1).trans rfl; have hfz17_0 := blk_frozen BK6.out 0; have hfz17_1 := blk_frozen BK6.out 1) | ((with_reducible refine gate_store (t := 33) (p := 7) rfl ?_); refine store_event (t := 33) (p := 7) (v := ?vo_w18) (w1 := ((w16.setCell ⟨gb6, 0, none⟩ (.int .u32 ((rd_T33 (rd_L2 l0 x11_1) x17_2).f0))).setCell ⟨gb6, 1, none⟩ (.int .u32 ((rd_T33 (rd_L2 l0 x11_1) x17_2).f1)))) ?hg ?ho ?hn ?hr ?_; (case ho => rfl); (case hg => rfl); (case hn => rfl); (case hr => first | (go_simp; done) | (go_simp; rfl)); intro w18 hw; have n0_ : Aside0 (Kd.R (Kd.int .u32) 29 w18 w.heap.size (fun _ => True) u3 x3_2) := ⟨(by rw [hw]; exact (by (with_reducible repeat (first | apply Kd.R_alloc | apply Kd.R_drewN | apply Kd.R_drew)); exact Kd.R_mono (Kd.R_far (p := ⟨gb6, 1, none⟩) (Kd.R_far (p := ⟨gb6, 0, none⟩) (Kd.R_types HO_3.out BK6.out (by decide)) (fun _ hk => hk.2) (.int .u32 ((rd_T33 (rd_L2 l0 x11_1) x17_2).f0))) (fun _ hk => hk.2) (.int .u32 ((rd_T33 (rd_L2 l0 x11_1) x17_2).f1))) (fun _ hk => trivial)))⟩; have n1_ : Aside0 (w18.heap[gb6]? = some (.cells #[.int .u32 ((rd_T33 (rd_L2 l0 x11_1) x17_2).f0), .int .u32 ((rd_T33 (rd_L2 l0 x11_1) x17_2).f1)] 33 (0, 0))) := ⟨(by rw [hw]; exact (by (with_reducible repeat (first | refine blk_drewN ?_ _ | refine blk_drew ?_ | refine blk_alloc ?_ _)); refine blk_put (cs := #[.int .u32 ((rd_T33 (rd_L2 l0 x11_1) x17_2).f0), .int .u32 0]) ?_ 1 _ rfl; (with_reducible repeat (first | refine blk_drewN ?_ _ | refine blk_drew ?_ | refine blk_alloc ?_ _)); refine blk_put (cs := #[.int .u32 0, .int .u32 0]) ?_ 0 _ rfl; (with_reducible repeat (first | refine blk_drewN ?_ _ | refine blk_drew ?_ | refine blk_alloc ?_ _)); exact BK6.out))⟩; have n2_ : Aside0 (Below w.heap.size w w18) := ⟨(by rw [hw]; exact (by repeat (first | (with_reducible first | exact HB.out | apply below_alloc | apply pw_below_drewN | apply below_drew1 | refine below_set ?_ GE6.out) | exact HB.out)))⟩; clear hw; clear HO_3; clear BK6; clear HB; have HO_3 := n0_; have BK6 := n1_; have HB := n2_; clear n0_ n1_ n2_; have hcz19_0 : w18.cell? ⟨gb6, 0, none⟩ = some (.int .u32 ((rd_T33 (rd_L2 l0 x11_1) x17_2).f0)) := (blk_cell BK6.out 0).trans rfl; have hcz19_1 : w18.cell? ⟨gb6, 1, none⟩ = some (.int .u32 ((rd_T33 (rd_L2 l0 x11_1) x17_2).f1)) := (blk_cell BK6.out 1).trans rfl; have hfz19_0 := blk_frozen BK6.out 0; have hfz19_1 := blk_frozen BK6.out 1; obtain ⟨Ao20, co20, eo20⟩ := Kd.R_slice HO_3.out; subst eo20) | ((with_reducible refine gate_callee (f := 35) rfl ?_); refine goesL_ (some 29) rfl rfl Try.func35 (by kernel_rfl) rfl #[.slice Ao20 x3_2.length co20, .int .u32 ((rd_T33 (rd_L2 l0 x11_1) x17_2).f0)] rfl (by (try simp only [List.map_toArray, List.map_cons, List.map_nil]); first | done | rfl | (simp only [List.length_drop, List.length_take]; rfl)) ?_; (with_reducible refine (q5z.calls k2 (fun k_ => some k_ = (.slice Ao20 x3_2.length co20 : Value).ownBlock) (.slice Ao20 x3_2.length co20) x3_2 ((rd_T33 (rd_L2 l0 x11_1) x17_2).f0) t7 w _ ?side1 ?side2 A13.out).mono ?_); (case side1 => repeat (first | (with_reducible first | exact HB.out | apply below_alloc | apply pw_below_drewN | apply below_drew1 | refine below_set ?_ GE6.out) | exact HB.out)); (case side2 => exact Kd.R_tight rfl HO_3.out); rintro e w21 ⟨v8, rfl, ho0, hb, hkp⟩; refine ⟨_, rfl, ?_⟩; have n0_ := Aside0.mk (blk_kept (by (with_reducible repeat (first | refine blk_drewN ?_ _ | refine blk_drew ?_ | refine blk_alloc ?_ _)); exact BK6.out) hkp (fun hs_ => (fun e_ => (Kd.R_ne HO_3.out BK6.out (by decide)) e_) hs_)); have n1_ := Aside0.mk (Kd.R_mono (ok' := fun k_ => True) ho0 (fun k_ hk_ => trivial)); have n2_ := Aside0.mk (hb); clear BK6; clear HB; clear HO_3; have BK6 := n0_; have HO9 := n1_; have HB := n2_; clear n0_ n1_ n2_; (try clear hb); (try clear hkp); (try clear ho0); have hcz22_0 : w21.cell? ⟨gb6, 0, none⟩ = some (.int .u32 ((rd_T33 (rd_L2 l0 x11_1) x17_2).f0)) := (blk_cell BK6.out 0).trans rfl; have hcz22_1 : w21.cell? ⟨gb6, 1, none⟩ = some (.int .u32 ((rd_T33 (rd_L2 l0 x11_1) x17_2).f1)) := (blk_cell BK6.out 1).trans rfl; have hfz22_0 := blk_frozen BK6.out 0; have hfz22_1 := blk_frozen BK6.out 1; obtain ⟨Ao23, co23, eo23⟩ := Kd.R_slice HO9.out; subst eo23) | ((with_reducible refine gate_callee (f := 35) rfl ?_); refine goesL_ (some 37) rfl rfl Try.func35 (by kernel_rfl) rfl #[.slice Ao23 t7.length co23, .int .u32 ((((rd_T33 (rd_L2 l0 x11_1) x17_2).f1) + 1) % 4294967296)] rfl (by (try simp only [List.map_toArray, List.map_cons, List.map_nil]); first | done | rfl | (simp only [List.length_drop, List.length_take]; rfl)) ?_; (with_reducible refine (q5z.calls k2 (fun k_ => some k_ = (.slice Ao23 t7.length co23 : Value).ownBlock) (.slice Ao23 t7.length co23) t7 ((((rd_T33 (rd_L2 l0 x11_1) x17_2).f1) + 1) % 4294967296) t10 w _ ?side1 ?side2 A15.out).mono ?_); (case side1 => repeat (first | (with_reducible first | exact HB.out | apply below_alloc | apply pw_below_drewN | apply below_drew1 | refine below_set ?_ GE6.out) | exact HB.out)); (case side2 => exact Kd.R_tight rfl HO9.out); rintro e w24 ⟨v11, rfl, ho0, hb, hkp⟩; refine ⟨_, rfl, ?_⟩; have n0_ := Aside0.mk (blk_kept (by (with_reducible repeat (first | refine blk_drewN ?_ _ | refine blk_drew ?_ | refine blk_alloc ?_ _)); exact BK6.out) hkp (fun hs_ => (fun e_ => (Kd.R_ne HO9.out BK6.out (by decide)) e_) hs_)); have n1_ := Aside0.mk (Kd.R_mono (ok' := fun k_ => True) ho0 (fun k_ hk_ => trivial)); have n2_ := Aside0.mk (hb); clear BK6; clear HB; clear HO9; have BK6 := n0_; have HO12 := n1_; have HB := n2_; clear n0_ n1_ n2_; (try clear hb); (try clear hkp); (try clear ho0)))
             go_roundg k2
             case measure => have := HK1.out; have := HK2.out; omega
             case rel => exact ⟨(t10), (wrap64 (x17_2 + 1)), (by first | rfl | (simp; done) | (simp [*]; done)), H', ⟨by have := HK1.out; have := HK2.out; omega⟩, ⟨by (with_reducible repeat (first | apply Kd.R_alloc | apply Kd.R_drewN | apply Kd.R_drew)); exact HO12.out⟩, ⟨by repeat (first | (with_reducible first | exact HB.out | apply below_alloc | apply pw_below_drewN | apply below_drew1 | refine below_set ?_ GE6.out) | exact HB.out)⟩⟩
            ·
             rw [if_neg c14] at H
             have c14b0 : decide (((rd_T33 (rd_L2 l0 x11_1) x17_2).f1) < 4294967295) = false := decide_eq_false c14
             clear c14
             have H' := Aside0.mk H
             clear H
             have p5 : 0 ≤ (x17_2 : Int) := of_decide_eq_true (by first | (with_reducible assumption) | assumption)
             have q5 : x17_2 < ((rd_L2 l0 x11_1).length : Int) := of_decide_eq_true (by first | (with_reducible assumption) | assumption)
             obtain ⟨ad5, e5, hx5_0, hx5_1⟩ := at_T33 HR4_0.out x17_2 p5 q5
             cases e5
             replace hx5_0 := (HB.out.cell (World.block_lt_of_cell? w _ hx5_0)).trans hx5_0
             replace hx5_1 := (HB.out.cell (World.block_lt_of_cell? w _ hx5_1)).trans hx5_1
             replace p5 := eq_true p5
             replace q5 := eq_true q5
             go_wp2_with (first | ((with_reducible refine gate_dst (N := 7) rfl ?_); refine box_event ?hg (N := 7) ?hd (cs := #[.int .u32 0, .int .u32 0]) (t := 33) ?hr ?_; (case hd => rfl); (case hg => rfl); (case hr => first | (go_simp; done) | (go_simp; rfl)); intro gb6 hg w25 hbox hb; have n0_ := Aside0.mk (Kd.R_below (by (with_reducible repeat (first | apply Kd.R_alloc | apply Kd.R_drewN | apply Kd.R_drew)); exact HO_3.out) hb); have n1_ := Aside0.mk (below_step (by repeat (first | (with_reducible first | exact HB.out | apply below_alloc | apply pw_below_drewN | apply below_drew1) | exact HB.out)) hb); have n2_ := Aside0.mk (hbox); have n3_ := Aside0.mk ((by rw [hg]; exact (below_size (by repeat (first | (with_reducible first | exact HB.out | apply below_alloc | apply pw_below_drewN | apply below_drew1) | exact HB.out))) : w.heap.size ≤ gb6)); have n4_ := Aside0.mk ((by rw [hg]; exact (below_size (by repeat (first | (with_reducible first | exact HB.out | apply below_alloc | apply pw_below_drewN | apply below_drew1) | exact HB.out))) : w.heap.size ≤ gb6)); clear HO_3; clear HB; have HO_3 := n0_; have HB := n1_; have BK6 := n2_; have GW6 := n3_; have GE6 := n4_; clear n0_ n1_ n2_ n3_ n4_; clear hb hbox hg; have hcz26_0 : w25.cell? ⟨gb6, 0, none⟩ = some (.int .u32 0) := (blk_cell BK6.out 0).trans rfl; have hcz26_1 : w25.cell? ⟨gb6, 1, none⟩ = some (.int .u32 0) := (blk_cell BK6.out 1).trans rfl; have hfz26_0 := blk_frozen BK6.out 0; have hfz26_1 := blk_frozen BK6.out 1) | ((with_reducible refine gate_store (t := 33) (p := 7) rfl ?_); refine store_event (t := 33) (p := 7) (v := ?vo_w27) (w1 := ((w25.setCell ⟨gb6, 0, none⟩ (.int .u32 ((rd_T33 (rd_L2 l0 x11_1) x17_2).f0))).setCell ⟨gb6, 1, none⟩ (.int .u32 ((rd_T33 (rd_L2 l0 x11_1) x17_2).f1)))) ?hg ?ho ?hn ?hr ?_; (case ho => rfl); (case hg => rfl); (case hn => rfl); (case hr => first | (go_simp; done) | (go_simp; rfl)); intro w27 hw; have n0_ : Aside0 (Kd.R (Kd.int .u32) 29 w27 w.heap.size (fun _ => True) u3 x3_2) := ⟨(by rw [hw]; exact (by (with_reducible repeat (first | apply Kd.R_alloc | apply Kd.R_drewN | apply Kd.R_drew)); exact Kd.R_mono (Kd.R_far (p := ⟨gb6, 1, none⟩) (Kd.R_far (p := ⟨gb6, 0, none⟩) (Kd.R_types HO_3.out BK6.out (by decide)) (fun _ hk => hk.2) (.int .u32 ((rd_T33 (rd_L2 l0 x11_1) x17_2).f0))) (fun _ hk => hk.2) (.int .u32 ((rd_T33 (rd_L2 l0 x11_1) x17_2).f1))) (fun _ hk => trivial)))⟩; have n1_ : Aside0 (w27.heap[gb6]? = some (.cells #[.int .u32 ((rd_T33 (rd_L2 l0 x11_1) x17_2).f0), .int .u32 ((rd_T33 (rd_L2 l0 x11_1) x17_2).f1)] 33 (0, 0))) := ⟨(by rw [hw]; exact (by (with_reducible repeat (first | refine blk_drewN ?_ _ | refine blk_drew ?_ | refine blk_alloc ?_ _)); refine blk_put (cs := #[.int .u32 ((rd_T33 (rd_L2 l0 x11_1) x17_2).f0), .int .u32 0]) ?_ 1 _ rfl; (with_reducible repeat (first | refine blk_drewN ?_ _ | refine blk_drew ?_ | refine blk_alloc ?_ _)); refine blk_put (cs := #[.int .u32 0, .int .u32 0]) ?_ 0 _ rfl; (with_reducible repeat (first | refine blk_drewN ?_ _ | refine blk_drew ?_ | refine blk_alloc ?_ _)); exact BK6.out))⟩; have n2_ : Aside0 (Below w.heap.size w w27) := ⟨(by rw [hw]; exact (by repeat (first | (with_reducible first | exact HB.out | apply below_alloc | apply pw_below_drewN | apply below_drew1 | refine below_set ?_ GE6.out) | exact HB.out)))⟩; clear hw; clear HO_3; clear BK6; clear HB; have HO_3 := n0_; have BK6 := n1_; have HB := n2_; clear n0_ n1_ n2_; have hcz28_0 : w27.cell? ⟨gb6, 0, none⟩ = some (.int .u32 ((rd_T33 (rd_L2 l0 x11_1) x17_2).f0)) := (blk_cell BK6.out 0).trans rfl; have hcz28_1 : w27.cell? ⟨gb6, 1, none⟩ = some (.int .u32 ((rd_T33 (rd_L2 l0 x11_1) x17_2).f1)) := (blk_cell BK6.out 1).trans rfl; have hfz28_0 := blk_frozen BK6.out 0; have hfz28_1 := blk_frozen BK6.out 1; obtain ⟨Ao29, co29, eo29⟩ := Kd.R_slice HO_3.out; subst eo29) | ((with_reducible refine gate_callee (f := 35) rfl ?_); refine goesL_ (some 29) rfl rfl Try.func35 (by kernel_rfl) rfl #[.slice Ao29 x3_2.length co29, .int .u32 ((rd_T33 (rd_L2 l0 x11_1) x17_2).f0)] rfl (by (try simp only [List.map_toArray, List.map_cons, List.map_nil]); first | done | rfl | (simp only [List.length_drop, List.length_take]; rfl)) ?_; (with_reducible refine (q5z.calls k2 (fun k_ => some k_ = (.slice Ao29 x3_2.length co29 : Value).ownBlock) (.slice Ao29 x3_2.length co29) x3_2 ((rd_T33 (rd_L2 l0 x11_1) x17_2).f0) t7 w _ ?side1 ?side2 A13.out).mono ?_); (case side1 => repeat (first | (with_reducible first | exact HB.out | apply below_alloc | apply pw_below_drewN | apply below_drew1 | refine below_set ?_ GE6.out) | exact HB.out)); (case side2 => exact Kd.R_tight rfl HO_3.out); rintro e w30 ⟨v8, rfl, ho0, hb, hkp⟩; refine ⟨_, rfl, ?_⟩; have n0_ := Aside0.mk (blk_kept (by (with_reducible repeat (first | refine blk_drewN ?_ _ | refine blk_drew ?_ | refine blk_alloc ?_ _)); exact BK6.out) hkp (fun hs_ => (fun e_ => (Kd.R_ne HO_3.out BK6.out (by decide)) e_) hs_)); have n1_ := Aside0.mk (Kd.R_mono (ok' := fun k_ => True) ho0 (fun k_ hk_ => trivial)); have n2_ := Aside0.mk (hb); clear BK6; clear HB; clear HO_3; have BK6 := n0_; have HO9 := n1_; have HB := n2_; clear n0_ n1_ n2_; (try clear hb); (try clear hkp); (try clear ho0); have hcz31_0 : w30.cell? ⟨gb6, 0, none⟩ = some (.int .u32 ((rd_T33 (rd_L2 l0 x11_1) x17_2).f0)) := (blk_cell BK6.out 0).trans rfl; have hcz31_1 : w30.cell? ⟨gb6, 1, none⟩ = some (.int .u32 ((rd_T33 (rd_L2 l0 x11_1) x17_2).f1)) := (blk_cell BK6.out 1).trans rfl; have hfz31_0 := blk_frozen BK6.out 0; have hfz31_1 := blk_frozen BK6.out 1))
             go_roundg k2
             case measure => have := HK1.out; have := HK2.out; omega
             case rel => exact ⟨(t7), (wrap64 (x17_2 + 1)), (by first | rfl | (simp; done) | (simp [*]; done)), H', ⟨by have := HK1.out; have := HK2.out; omega⟩, ⟨by (with_reducible repeat (first | apply Kd.R_alloc | apply Kd.R_drewN | apply Kd.R_drew)); exact HO9.out⟩, ⟨by repeat (first | (with_reducible first | exact HB.out | apply below_alloc | apply pw_below_drewN | apply below_drew1 | refine below_set ?_ GE6.out) | exact HB.out)⟩⟩
          ·
           rw [if_neg c9] at H
           exact absurd H (by simp)
         ·
          rw [if_neg c8] at H
          exact absurd H (by simp)
        ·
         rw [if_neg c7] at H
         have c7b0 : decide (x17_2 < ((rd_L2 l0 x11_1).length : Int)) = false := decide_eq_false c7
         clear c7
         have H' := Aside0.mk H
         clear H
         go_wp2
         go_roundg k2
         case measure => have := HK1.out; have := HK2.out; omega
         case rel => exact ⟨(x3_2), (wrap64 (x11_1 + 1)), (by first | rfl | (simp; done) | (simp [*]; done)), H', ⟨by have := HK1.out; have := HK2.out; omega⟩, ⟨by (with_reducible repeat (first | apply Kd.R_alloc | apply Kd.R_drewN | apply Kd.R_drew)); exact HO_3.out⟩, ⟨by repeat (first | (with_reducible first | exact HB.out | apply below_alloc | apply pw_below_drewN | apply below_drew1) | exact HB.out)⟩⟩
     ·
      rw [if_neg c6] at H
      exact absurd H (by simp)
    ·
     rw [if_neg c5] at H
     exact absurd H (by simp)
   ·
    rw [if_neg c4] at H
    have c4b0 : decide (x11_1 < (l0.length : Int)) = false := decide_eq_false c4
    clear c4
    obtain rfl := Option.some.inj H
    go_wp2
    go_ret
    exact ⟨_, by first | rfl | (simp [errW_none, errW_some] <;> rfl) | (simp [*, errW_none, errW_some] <;> rfl), by (with_reducible repeat (first | apply Kd.R_alloc | apply Kd.R_drewN | apply Kd.R_drew)); exact HO_3.out, by repeat (first | (with_reducible first | exact HB.out | apply below_alloc | apply pw_below_drewN | apply below_drew1) | exact HB.out)⟩

end Go.Proofs.Ytconaifcjnpabaa.P

namespace Go.Proofs.Ytconaifcjnpabaa.P
open Go.RowKit Go.Proofs.YtconaifcjnpabaaW.PrintWords Go.Proofs.YtconaifcjnpabaaW.PrintLast Go.Proofs.YtconaifcjnpabaaW.PrintMore
attribute [local go_sem] max2_int min2_int max_two min_two max_three min_three max_four min_four
set_option linter.unusedVariables false
set_option linter.unusedSimpArgs false

/-! ### dragomanref01_end: function 25 -/
def q7z.f (l0 : List Int) (a1 : Int) : Option (Int) := if a1 = (wrap64 ((l0.length : Int) - 1)) then (some 4294967295) else (if 0 ≤ (wrap64 (a1 + 1)) then (if (wrap64 (a1 + 1)) < (l0.length : Int) then (some (((rd l0 (wrap64 (a1 + 1))) - 1) % 4294967296)) else (none)) else (none))
set_option maxHeartbeats 8000000 in
set_option maxRecDepth 100000 in
theorem q7z.calls (A0 : Option Addr) (c0 : Nat) (l0 : List Int) (a1 : Int) (r : Int) (w : World) (hr0 : Kd.C (Kd.int .u32) w A0 l0.length l0) (hc0 : l0.length ≤ c0) (h : q7z.f l0 a1 = some r) :
  Calls Try.prog 25 #[.slice A0 l0.length c0, .int .i64 a1] w fun e w' => e = .returned (.int .u32 r) ∧ Drawn0 w w' := by
 have HR0 := Aside0.mk hr0
 have HC0 := Aside0.mk hc0
 clear hr0 hc0
 have H : (if a1 = (wrap64 ((l0.length : Int) - 1)) then (some 4294967295) else (if 0 ≤ (wrap64 (a1 + 1)) then (if (wrap64 (a1 + 1)) < (l0.length : Int) then (some (((rd l0 (wrap64 (a1 + 1))) - 1) % 4294967296)) else (none)) else (none))) = some r := h
 clear h
 by_cases c3 : a1 = (wrap64 ((l0.length : Int) - 1))
 ·
  rw [if_pos c3] at H
  have c3b0 : (a1 == (wrap64 ((l0.length : Int) - 1))) = true := beq_iff_eq.mpr c3
  have c3b1 : (a1 != (wrap64 ((l0.length : Int) - 1))) = false := bne_eq_false_iff_eq.mpr c3
  clear c3
  obtain rfl := Option.some.inj H
  go_enter Try.func25, Try.ntmps25
  go_wp2
  go_ret
  exact ⟨by first | rfl | (simp; done) | (simp [*]; done), by repeat (first | exact Drawn0.refl _ | apply Drawn0.step)⟩
 ·
  rw [if_neg c3] at H
  have c3b0 : (a1 == (wrap64 ((l0.length : Int) - 1))) = false := beq_eq_false_iff_ne.mpr c3
  have c3b1 : (a1 != (wrap64 ((l0.length : Int) - 1))) = true := bne_iff_ne.mpr c3
  obtain ⟨ji4, hji4⟩ : ∃ j_ : Int, (wrap64 (a1 + 1)) = j_ := ⟨_, rfl⟩
  replace H : (if 0 ≤ (ji4) then (if (ji4) < (l0.length : Int) then (some (((rd l0 (ji4)) - 1) % 4294967296)) else (none)) else (none)) = some r := by first | (rw [hji4] at H; exact H) | (simp only [hji4] at H ⊢; exact H)
  have hji4w : (IntKind.i64.wrap (a1 + 1)) = ji4 := (i64_w _).trans hji4
  by_cases c5 : 0 ≤ (ji4)
  ·
   rw [if_pos c5] at H
   have c5b0 : decide (0 ≤ (ji4)) = true := decide_eq_true c5
   clear c5
   by_cases c6 : (ji4) < (l0.length : Int)
   ·
    rw [if_pos c6] at H
    have c6b0 : decide ((ji4) < (l0.length : Int)) = true := decide_eq_true c6
    clear c6
    obtain rfl := Option.some.inj H
    have p1 : 0 ≤ ((ji4) : Int) := of_decide_eq_true (by first | (with_reducible assumption) | assumption)
    have q1 : (ji4) < (l0.length : Int) := of_decide_eq_true (by first | (with_reducible assumption) | assumption)
    obtain ⟨ad1, e1, hx1_0⟩ := Kd.at_int HR0.out (ji4) p1 q1
    cases e1
    replace p1 := eq_true p1
    replace q1 := eq_true q1
    go_enter Try.func25, Try.ntmps25
    go_wp2
    go_ret
    exact ⟨by first | rfl | (simp; done) | (simp only [← hji4] <;> (first | rfl | simp)) | (simp [*]; done), by repeat (first | exact Drawn0.refl _ | apply Drawn0.step)⟩
   ·
    rw [if_neg c6] at H
    exact absurd H (by simp)
  ·
   rw [if_neg c5] at H
   exact absurd H (by simp)

end Go.Proofs.Ytconaifcjnpabaa.P

namespace Go.Proofs.Ytconaifcjnpabaa.P
open Go.RowKit Go.Proofs.YtconaifcjnpabaaW.PrintWords Go.Proofs.YtconaifcjnpabaaW.PrintLast Go.Proofs.YtconaifcjnpabaaW.PrintMore
attribute [local go_sem] max2_int min2_int max_two min_two max_three min_three max_four min_four
set_option linter.unusedVariables false
set_option linter.unusedSimpArgs false

/-! ### dragomanref01_Atoms: function 12 -/
mutual
def q8z.l0 : Nat → List (List (S33)) → List Int → List (S33) → List Int → Int → Int → Option ((List (S33)))
 | 0, _, _, _, _, _, _ => none
 | k + 1, x0, x3, x4, x12, x13, x14 => if x14 < x13 then (if 0 ≤ x14 then (if x14 < (x12.length : Int) then (q8z.l1 k x0 x3 x4 x14 (rd x12 x14) (decide (x14 > 0)) x12 x13 x14 x0 (x0.length : Int) 0) else (none)) else (none)) else (some x4)
def q8z.l1 : Nat → List (List (S33)) → List Int → List (S33) → Int → Int → Bool → List Int → Int → Int → List (List (S33)) → Int → Int → Option ((List (S33)))
 | 0, _, _, _, _, _, _, _, _, _, _, _, _ => none
 | k + 1, x0, x3, x4, x5, x6, x7, x12, x13, x14, x21, x22, x23 => if x23 < x22 then (if 0 ≤ x23 then (if x23 < (x21.length : Int) then (if x5 > 0 then ((q4z.f k (rd_L2 x21 x23) x6).bind fun t6 => (if 0 ≤ (wrap64 (x5 - 1)) then (if (wrap64 (x5 - 1)) < (x3.length : Int) then ((q4z.f k (rd_L2 x21 x23) (rd x3 (wrap64 (x5 - 1)))).bind fun t8 => (if (t6 != t8) = true then (q8z.l1 k x0 x3 x4 x5 x6 false x12 x13 x14 x21 x22 (wrap64 (x23 + 1))) else (q8z.l1 k x0 x3 x4 x5 x6 x7 x12 x13 x14 x21 x22 (wrap64 (x23 + 1))))) else (none)) else (none))) else (q8z.l1 k x0 x3 x4 x5 x6 x7 x12 x13 x14 x21 x22 (wrap64 (x23 + 1)))) else (none)) else (none)) else (if x7 = true then ((q7z.f x3 x5).bind fun t9 => (if 0 ≤ (wrap64 ((x4.length : Int) - 1)) then (if (wrap64 ((x4.length : Int) - 1)) < (x4.length : Int) then (q8z.l0 k x0 x3 (x4.set ((wrap64 ((x4.length : Int) - 1)) : Int).toNat (⟨(rd_T33 x4 (wrap64 ((x4.length : Int) - 1))).f0, t9⟩ : S33)) x12 x13 (wrap64 (x14 + 1))) else (none)) else (none))) else ((q7z.f x3 x5).bind fun t11 => (if x4.length < 17592186044416 then (q8z.l0 k x0 x3 (x4 ++ [(⟨x6, t11⟩ : S33)]) x12 x13 (wrap64 (x14 + 1))) else (none))))
end
def q8z.f (k : Nat) (l0 : List (List (S33))) : Option ((List (S33))) := (q6z.f k l0).bind fun t1 => (q8z.l0 k l0 t1 ([] : List (S33)) t1 (t1.length : Int) 0)
theorem q8z.mono_l : ∀ k, (∀ y0 y1 y2 y3 y4 y5, LeO (q8z.l0 k y0 y1 y2 y3 y4 y5) (q8z.l0 (k + 1) y0 y1 y2 y3 y4 y5)) ∧ (∀ y0 y1 y2 y3 y4 y5 y6 y7 y8 y9 y10 y11, LeO (q8z.l1 k y0 y1 y2 y3 y4 y5 y6 y7 y8 y9 y10 y11) (q8z.l1 (k + 1) y0 y1 y2 y3 y4 y5 y6 y7 y8 y9 y10 y11))
 | 0 => ⟨fun _ _ _ _ _ _ r h => by simp [q8z.l0] at h, fun _ _ _ _ _ _ _ _ _ _ _ _ r h => by simp [q8z.l1] at h⟩
 | k + 1 => by
  obtain ⟨ih0, ih1⟩ := q8z.mono_l k
  refine ⟨?_, ?_⟩
  ·
   intro y0 y1 y2 y3 y4 y5
   unfold q8z.l0
   repeat' first
   | (with_reducible exact ih0 _ _ _ _ _ _)
   | (with_reducible exact ih1 _ _ _ _ _ _ _ _ _ _ _ _)
   | (with_reducible exact q4z.mono _ _ _)
   | (with_reducible exact q6z.mono _ _)
   | (with_reducible exact LeO.refl _)
   | (with_reducible exact LeO.none _)
   | (with_reducible refine LeO.ite ?_ ?_)
   | (with_reducible refine LeO.bind ?_ (fun _ => ?_))
   | exact ih0 _ _ _ _ _ _
   | exact ih1 _ _ _ _ _ _ _ _ _ _ _ _
   | exact q4z.mono _ _ _
   | exact q6z.mono _ _
   | exact LeO.none _
   | refine LeO.ite ?_ ?_
   | refine LeO.bind ?_ (fun _ => ?_)
  ·
   intro y0 y1 y2 y3 y4 y5 y6 y7 y8 y9 y10 y11
   unfold q8z.l1
   repeat' first
   | (with_reducible exact ih0 _ _ _ _ _ _)
   | (with_reducible exact ih1 _ _ _ _ _ _ _ _ _ _ _ _)
   | (with_reducible exact q4z.mono _ _ _)
   | (with_reducible exact q6z.mono _ _)
   | (with_reducible exact LeO.refl _)
   | (with_reducible exact LeO.none _)
   | (with_reducible refine LeO.ite ?_ ?_)
   | (with_reducible refine LeO.bind ?_ (fun _ => ?_))
   | exact ih0 _ _ _ _ _ _
   | exact ih1 _ _ _ _ _ _ _ _ _ _ _ _
   | exact q4z.mono _ _ _
   | exact q6z.mono _ _
   | exact LeO.none _
   | refine LeO.ite ?_ ?_
   | refine LeO.bind ?_ (fun _ => ?_)
theorem q8z.mono : ∀ a0 k, LeO (q8z.f k a0) (q8z.f (k + 1) a0) := by
 intro a0 k
 obtain ⟨ih0, ih1⟩ := q8z.mono_l k
 unfold q8z.f
 repeat' first
   | (with_reducible exact ih0 _ _ _ _ _ _)
   | (with_reducible exact ih1 _ _ _ _ _ _ _ _ _ _ _ _)
   | (with_reducible exact q4z.mono _ _ _)
   | (with_reducible exact q6z.mono _ _)
   | (with_reducible exact LeO.refl _)
   | (with_reducible exact LeO.none _)
   | (with_reducible refine LeO.ite ?_ ?_)
   | (with_reducible refine LeO.bind ?_ (fun _ => ?_))
   | exact ih0 _ _ _ _ _ _
   | exact ih1 _ _ _ _ _ _ _ _ _ _ _ _
   | exact q4z.mono _ _ _
   | exact q6z.mono _ _
   | exact LeO.none _
   | refine LeO.ite ?_ ?_
   | refine LeO.bind ?_ (fun _ => ?_)
def q8z.T10 : Bool × List (List Nat × List Nat) := (true, [([], []), ([0], [0]), ([1], [1]), ([2], [2]), ([2], [2]), ([3, 4, 2, 2], [2, 3, 4]), ([2], [2]), ([2], [2]), ([2], [2]), ([8, 2], [2, 8]), ([7, 9, 2], [2, 7, 9]), ([10, 2], [2, 10]), ([6, 11, 5, 2], [2, 6, 11]), ([5, 12, 2], [2, 5, 12]), ([2, 13], [2, 13])])
def q8z.B10 : List Nat := [0, 1, 3, 7, 7, 31, 7, 7, 7, 263, 903, 1927, 4095, 8191, 16383]
theorem q8z.tab10 : rtab .any (opsOf Try.f12 10) = q8z.T10 := by kernel_rfl
theorem q8z.bits10 : waitsOk q8z.T10.2 q8z.B10 = true := by kernel_rfl
set_option maxHeartbeats 8000000 in
set_option maxRecDepth 100000 in
theorem q8z.calls (k : Nat) (A0 : Option Addr) (c0 : Nat) (l0 : List (List (S33))) (r : List (S33)) (w : World) (hr0 : Kd.C (Kd.slice 33 k33) w A0 l0.length l0) (hc0 : l0.length ≤ c0) (h : q8z.f k l0 = some r) :
  Calls Try.prog 12 #[.slice A0 l0.length c0] w fun e w' => ∃ v0_ : Value, e = .returned (v0_) ∧ Kd.R k33 33 w' w.heap.size (fun _ => True) v0_ r ∧ Below w.heap.size w w' := by
 have hu33 := Try.underlying33
 have HR0 := Aside0.mk hr0
 have HC0 := Aside0.mk hc0
 clear hr0 hc0
 have HB := Aside0.mk (Below.refl w.heap.size w)
 have H : ((q6z.f k l0).bind fun t1 => (q8z.l0 k l0 t1 ([] : List (S33)) t1 (t1.length : Int) 0)) = some r := h
 clear h
 replace H := Option.bind_eq_some_iff.mp H
 obtain ⟨t1, A20, H⟩ := H
 replace H : (q8z.l0 k l0 t1 ([] : List (S33)) t1 (t1.length : Int) 0) = some r := H
 have A2 := Aside0.mk A20
 clear A20
 have H' := Aside0.mk H
 clear H
 go_enter Try.func12, Try.ntmps12
 go_wp2_with (first | ((with_reducible refine gate_callee (f := 24) rfl ?_); refine goesL_ (some 11) rfl rfl Try.func24 (by kernel_rfl) rfl #[.slice A0 l0.length c0] rfl (by (try simp only [List.map_toArray, List.map_cons, List.map_nil]); first | done | rfl | (simp only [List.length_drop, List.length_take]; rfl)) ?_; (with_reducible refine (q6z.calls k _ _ l0 t1 _ ?side1 ?side2 A2.out).mono ?_); (case side1 => repeat (first | exact HR0.out | (with_reducible refine Kd.C_alloc ?_ _) | (with_reducible refine Kd.C_drewN ?_ _) | (with_reducible refine Kd.C_drew ?_))); (case side2 => exact HC0.out); rintro e w3 ⟨v2, rfl, ho0, hb⟩; refine ⟨_, rfl, ?_⟩; have n0_ := Aside0.mk (Kd.R_lower ho0 (below_size (by repeat (first | (with_reducible first | exact HB.out | apply below_alloc | apply pw_below_drewN | apply below_drew1) | exact HB.out)))); have n1_ := Aside0.mk (below_step (by repeat (first | (with_reducible first | exact HB.out | apply below_alloc | apply pw_below_drewN | apply below_drew1) | exact HB.out)) hb); clear HB; have HO3 := n0_; have HB := n1_; clear n0_ n1_; (try clear hb); (try clear hb2); (try clear hk); (try clear hi); (try clear ho0); obtain ⟨Ao4, co4, eo4⟩ := Kd.R_slice HO3.out; subst eo4))
 go_loopg [4, 14] k (fun kq v4 v14 w' => ∃ (x4_1 : List (S33)) (x14_1 : Int), v14 = .int .i64 x14_1 ∧ Aside0 (q8z.l0 kq l0 t1 x4_1 t1 (t1.length : Int) x14_1 = some r) ∧ Aside0 (kq ≤ k) ∧ Aside0 (Kd.R (Kd.int .u32) 29 w' w.heap.size (fun _ => True) (.slice Ao4 t1.length co4) t1) ∧ Aside0 (Kd.R k33 33 w' w.heap.size (fun _ => True) v4 x4_1) ∧ Aside0 (Kd.R (Kd.int .u32) 29 w' w.heap.size (fun _ => True) (.slice Ao4 t1.length co4) t1) ∧ Aside0 (Below w.heap.size w w'))
 case atStart => exact ⟨(([] : List (S33))), (0), (by first | rfl | (simp; done) | (simp [*]; done)), H', ⟨Nat.le_refl _⟩, ⟨by (with_reducible repeat (first | apply Kd.R_alloc | apply Kd.R_drewN | apply Kd.R_drew)); exact HO3.out⟩, ⟨by first | exact Kd.R_nil _ _ _ _ _ | exact Kd.N_nil _ _ _ _ _ | exact Kd.V_nil _ _ _ _ _ | exact Kd.Q_nil _ _ _ _ _ | exact Kd.S_nil _ _ _ _ _⟩, ⟨by (with_reducible repeat (first | apply Kd.R_alloc | apply Kd.R_drewN | apply Kd.R_drew)); exact HO3.out⟩, ⟨by repeat (first | (with_reducible first | exact HB.out | apply below_alloc | apply pw_below_drewN | apply below_drew1) | exact HB.out)⟩⟩
 case round =>
  clear H'
  try clear c1
  try clear c2
  try clear p2
  obtain ⟨x4_1, x14_1, rfl, HA, HK1, HO_3, HO_4, HO_12, HB⟩ := hrel
  cases gk with
  | zero => exact absurd HA.out (by simp [q8z.l0])
  | succ k1 =>
   have H := HA.out
   clear HA
   simp only [q8z.l0] at H
   by_cases c5 : x14_1 < (t1.length : Int)
   ·
    rw [if_pos c5] at H
    have c5b0 : decide (x14_1 < (t1.length : Int)) = true := decide_eq_true c5
    clear c5
    by_cases c6 : 0 ≤ x14_1
    ·
     rw [if_pos c6] at H
     have c6b0 : decide (0 ≤ x14_1) = true := decide_eq_true c6
     clear c6
     by_cases c7 : x14_1 < (t1.length : Int)
     ·
      rw [if_pos c7] at H
      have c7b0 : decide (x14_1 < (t1.length : Int)) = true := decide_eq_true c7
      clear c7
      have H' := Aside0.mk H
      clear H
      have p4 : 0 ≤ (x14_1 : Int) := of_decide_eq_true (by first | (with_reducible assumption) | assumption)
      have q4 : x14_1 < (t1.length : Int) := of_decide_eq_true (by first | (with_reducible assumption) | assumption)
      obtain ⟨ad4, e4, hx4_0⟩ := Kd.at_int (Kd.R_reads' HO_12.out).2.2 x14_1 p4 q4
      cases e4
      replace p4 := eq_true p4
      replace q4 := eq_true q4
      go_wp2
      obtain ⟨bi14, hbi14⟩ : ∃ b, b = decide (0 < x14_1) := ⟨_, rfl⟩
      rw [← hbi14]
      go_loopg [7, 23] k1 (fun kq v7 v23 w' => ∃ (x7_2 : Bool) (x23_2 : Int), v7 = .bool x7_2 ∧ v23 = .int .i64 x23_2 ∧ Aside0 (q8z.l1 kq l0 t1 x4_1 x14_1 (rd t1 x14_1) x7_2 t1 (t1.length : Int) x14_1 l0 (l0.length : Int) x23_2 = some r) ∧ Aside0 (kq ≤ k1) ∧ Aside0 (Kd.R (Kd.int .u32) 29 w' w.heap.size (fun _ => True) (.slice (some ad4) t1.length co4) t1) ∧ Aside0 (Kd.R k33 33 w' w.heap.size (fun _ => True) u4 x4_1) ∧ Aside0 (Kd.R (Kd.int .u32) 29 w' w.heap.size (fun _ => True) (.slice (some ad4) t1.length co4) t1) ∧ Aside0 (Below w.heap.size w w'))
      case atStart => exact ⟨(decide (x14_1 > 0)), (0), (by first | rfl | (simp; done) | (simp [*]; done)), (by first | rfl | (simp; done) | (simp [*]; done)), H', ⟨Nat.le_refl _⟩, ⟨by (with_reducible repeat (first | apply Kd.R_alloc | apply Kd.R_drewN | apply Kd.R_drew)); exact HO_3.out⟩, ⟨by (with_reducible repeat (first | apply Kd.R_alloc | apply Kd.R_drewN | apply Kd.R_drew)); exact HO_4.out⟩, ⟨by (with_reducible repeat (first | apply Kd.R_alloc | apply Kd.R_drewN | apply Kd.R_drew)); exact HO_12.out⟩, ⟨by repeat (first | (with_reducible first | exact HB.out | apply below_alloc | apply pw_below_drewN | apply below_drew1) | exact HB.out)⟩⟩
      case round =>
       clear hbi14
       clear H'
       try clear c1
       try clear c2
       try clear p2
       try clear p4
       try clear q4
       try clear hx4
       try clear c5
       try clear c5b0
       try clear c6
       try clear c6b0
       try clear c7
       try clear c7b0
       try clear hx4_0
       try clear p2
       try clear p4
       try clear q4
       obtain ⟨x7_2, x23_2, rfl, rfl, HA, HK2, HO_3, HO_4, HO_12, HB⟩ := hrel
       cases gk with
       | zero => exact absurd HA.out (by simp [q8z.l1])
       | succ k2 =>
        have H := HA.out
        clear HA
        simp only [q8z.l1] at H
        by_cases c8 : x23_2 < (l0.length : Int)
        ·
         rw [if_pos c8] at H
         have c8b0 : decide (x23_2 < (l0.length : Int)) = true := decide_eq_true c8
         clear c8
         by_cases c9 : 0 ≤ x23_2
         ·
          rw [if_pos c9] at H
          have c9b0 : decide (0 ≤ x23_2) = true := decide_eq_true c9
          clear c9
          by_cases c10 : x23_2 < (l0.length : Int)
          ·
           rw [if_pos c10] at H
           have c10b0 : decide (x23_2 < (l0.length : Int)) = true := decide_eq_true c10
           clear c10
           by_cases c11 : x14_1 > 0
           ·
            rw [if_pos c11] at H
            have c11b0 : decide (0 < x14_1) = true := decide_eq_true c11
            clear c11
            replace H := Option.bind_eq_some_iff.mp H
            obtain ⟨t6, A120, H⟩ := H
            replace H : (if 0 ≤ (wrap64 (x14_1 - 1)) then (if (wrap64 (x14_1 - 1)) < (t1.length : Int) then ((q4z.f k2 (rd_L2 l0 x23_2) (rd t1 (wrap64 (x14_1 - 1)))).bind fun t8 => (if (t6 != t8) = true then (q8z.l1 k2 l0 t1 x4_1 x14_1 (rd t1 x14_1) false t1 (t1.length : Int) x14_1 l0 (l0.length : Int) (wrap64 (x23_2 + 1))) else (q8z.l1 k2 l0 t1 x4_1 x14_1 (rd t1 x14_1) x7_2 t1 (t1.length : Int) x14_1 l0 (l0.length : Int) (wrap64 (x23_2 + 1))))) else (none)) else (none)) = some r := H
            have A12 := Aside0.mk A120
            clear A120
            obtain ⟨ji13, hji13⟩ : ∃ j_ : Int, (wrap64 (x14_1 - 1)) = j_ := ⟨_, rfl⟩
            replace H : (if 0 ≤ (ji13) then (if (ji13) < (t1.length : Int) then ((q4z.f k2 (rd_L2 l0 x23_2) (rd t1 (ji13))).bind fun t8 => (if (t6 != t8) = true then (q8z.l1 k2 l0 t1 x4_1 x14_1 (rd t1 x14_1) false t1 (t1.length : Int) x14_1 l0 (l0.length : Int) (wrap64 (x23_2 + 1))) else (q8z.l1 k2 l0 t1 x4_1 x14_1 (rd t1 x14_1) x7_2 t1 (t1.length : Int) x14_1 l0 (l0.length : Int) (wrap64 (x23_2 + 1))))) else (none)) else (none)) = some r := by first | (rw [hji13] at H; exact H) | (simp only [hji13] at H ⊢; exact H)
            (try rw [hji13] at A12)
            have hji13w : (IntKind.i64.wrap (x14_1 - 1)) = ji13 := (i64_w _).trans hji13
            by_cases c14 : 0 ≤ (ji13)
            ·
             rw [if_pos c14] at H
             have c14b0 : decide (0 ≤ (ji13)) = true := decide_eq_true c14
             clear c14
             by_cases c15 : (ji13) < (t1.length : Int)
             ·
              rw [if_pos c15] at H
              have c15b0 : decide ((ji13) < (t1.length : Int)) = true := decide_eq_true c15
              clear c15
              replace H := Option.bind_eq_some_iff.mp H
              obtain ⟨t8, A160, H⟩ := H
              replace H : (if (t6 != t8) = true then (q8z.l1 k2 l0 t1 x4_1 x14_1 (rd t1 x14_1) false t1 (t1.length : Int) x14_1 l0 (l0.length : Int) (wrap64 (x23_2 + 1))) else (q8z.l1 k2 l0 t1 x4_1 x14_1 (rd t1 x14_1) x7_2 t1 (t1.length : Int) x14_1 l0 (l0.length : Int) (wrap64 (x23_2 + 1)))) = some r := H
              have A16 := Aside0.mk A160
              clear A160
              by_cases c17 : (t6 != t8) = true
              ·
               rw [if_pos c17] at H
               have c17b0 : (t6 != t8) = true := c17
               (try (have c17b1 : decide (t6 = t8) = false := by simpa using c17))
               (try (have c17b2 : (t6 == t8) = false := by simpa using c17))
               (try (have c17b3 : ¬ (t6 = t8) := by simpa using c17))
               clear c17
               have H' := Aside0.mk H
               clear H
               have p5 : 0 ≤ (x23_2 : Int) := of_decide_eq_true (by first | (with_reducible assumption) | assumption)
               have q5 : x23_2 < (l0.length : Int) := of_decide_eq_true (by first | (with_reducible assumption) | assumption)
               obtain ⟨ad5, A5_0, c5_0, e5, hx5_0, hl5_0, hi5_0⟩ := at_L2 HR0.out x23_2 p5 q5
               cases e5
               replace hx5_0 := (HB.out.cell (World.block_lt_of_cell? w _ hx5_0)).trans hx5_0
               have HR5_0 := Aside0.mk hi5_0
               have HC5_0 := Aside0.mk hl5_0
               clear hi5_0 hl5_0
               replace p5 := eq_true p5
               replace q5 := eq_true q5
               try go_wp2
               have n0_ := Aside0.mk (Kd.R_drew HO_3.out)
               have n1_ := Aside0.mk (Kd.R_drew HO_4.out)
               have n2_ := Aside0.mk (Kd.R_drew HO_12.out)
               have n3_ := Aside0.mk (below_drew1 HB.out)
               clear HO_3
               clear HO_4
               clear HO_12
               clear HB
               have HO_3 := n0_
               have HO_4 := n1_
               have HO_12 := n2_
               have HB := n3_
               clear n0_ n1_ n2_ n3_
               have p7 : 0 ≤ ((ji13) : Int) := of_decide_eq_true (by first | (with_reducible assumption) | assumption)
               have q7 : (ji13) < (t1.length : Int) := of_decide_eq_true (by first | (with_reducible assumption) | assumption)
               obtain ⟨ad7, e7, hx7_0⟩ := Kd.at_int (Kd.R_reads' HO_3.out).2.2 (ji13) p7 q7
               obtain rfl : ad4 = ad7 := (by injection e7)
               replace p7 := eq_true p7
               replace q7 := eq_true q7
               refine start_ (n := 15) (S := fun w' => w'.cell? (ad4.add ((ji13)).toNat) = some (.int .u32 (rd t1 (ji13)))) (ds := []) #[false, false, false, false, false, false, false, false, false, false, false, false, false, false, false] (by kernel_rfl) rfl rfl (hx7_0) (fun hHeld => ?_); refine with_tabW q8z.tab10 q8z.bits10 (fun HT_ HW_ => ?_)
               generalize wr.drew = w18 at HO_3 HO_4 HO_12 HB hx7_0 hHeld ⊢
               refine pure_ (i := 0) (N := some 27) (v := ?_) (a' := ?_) #[true, false, false, false, false, false, false, false, false, false, false, false, false, false, false] rfl rfl (any_of HT_.out (by kernel_rfl)) (fun _ _ _ h => h) (Or.inl ⟨by rfl, ?_⟩) ?_ ?_
               rotate_left
               ·
                intro w'
                go_simp
                with_reducible rfl
               rotate_left
               ·
                simp only [Act.put, List.setIfInBounds_toArray, List.set_cons_zero, List.set_cons_succ, i64_w, i32_w, IntKind.wrap_u32]
                rfl
               refine pure_ (i := 1) (N := some 28) (v := ?_) (a' := ?_) #[true, true, false, false, false, false, false, false, false, false, false, false, false, false, false] rfl rfl (any_of HT_.out (by kernel_rfl)) (fun _ _ _ h => h) (Or.inl ⟨by rfl, ?_⟩) ?_ ?_
               rotate_left
               ·
                intro w'
                go_simp
                with_reducible rfl
               rotate_left
               ·
                simp only [Act.put, List.setIfInBounds_toArray, List.set_cons_zero, List.set_cons_succ, i64_w, i32_w, IntKind.wrap_u32]
                rfl
               refine pure_ (i := 2) (N := some 29) (v := ?_) (a' := ?_) #[true, true, true, false, false, false, false, false, false, false, false, false, false, false, false] rfl rfl (any_of HT_.out (by kernel_rfl)) (fun _ _ _ h => h) (Or.inl ⟨by rfl, ?_⟩) ?_ ?_
               rotate_left
               ·
                intro w'
                go_simp
                with_reducible rfl
               rotate_left
               ·
                simp only [Act.put, List.setIfInBounds_toArray, List.set_cons_zero, List.set_cons_succ, i64_w, i32_w, IntKind.wrap_u32]
                rfl
               refine pure_ (i := 3) (N := some 30) (v := ?_) (a' := ?_) #[true, true, true, true, false, false, false, false, false, false, false, false, false, false, false] rfl rfl (any_of HT_.out (by kernel_rfl)) (fun _ _ _ h => h) (Or.inl ⟨by rfl, ?_⟩) ?_ ?_
               rotate_left
               ·
                intro w'
                go_simp
                with_reducible rfl
               rotate_left
               ·
                simp only [Act.put, List.setIfInBounds_toArray, List.set_cons_zero, List.set_cons_succ, i64_w, i32_w, IntKind.wrap_u32]
                rfl
               refine pure_ (i := 4) (N := some 31) (v := ?_) (a' := ?_) #[true, true, true, true, true, false, false, false, false, false, false, false, false, false, false] rfl rfl (any_of HT_.out (by kernel_rfl)) (fun _ _ _ h => h) (Or.inl ⟨by rfl, ?_⟩) ?_ ?_
               rotate_left
               ·
                intro w'
                go_simp
                with_reducible rfl
               rotate_left
               ·
                simp only [Act.put, List.setIfInBounds_toArray, List.set_cons_zero, List.set_cons_succ, i64_w, i32_w, IntKind.wrap_u32]
                rfl
               refine pure_ (i := 6) (N := some 33) (v := ?_) (a' := ?_) #[true, true, true, true, true, false, true, false, false, false, false, false, false, false, false] rfl rfl (any_of HT_.out (by kernel_rfl)) (fun _ _ _ h => h) (Or.inl ⟨by rfl, ?_⟩) ?_ ?_
               rotate_left
               ·
                intro w'
                go_simp
                with_reducible rfl
               rotate_left
               ·
                simp only [Act.put, List.setIfInBounds_toArray, List.set_cons_zero, List.set_cons_succ, i64_w, i32_w, IntKind.wrap_u32]
                rfl
               refine pure_ (i := 7) (N := some 34) (v := ?_) (a' := ?_) #[true, true, true, true, true, false, true, true, false, false, false, false, false, false, false] rfl rfl (any_of HT_.out (by kernel_rfl)) (fun _ _ _ h => h) (Or.inl ⟨by rfl, ?_⟩) ?_ ?_
               rotate_left
               ·
                intro w'
                go_simp
                with_reducible rfl
               rotate_left
               ·
                simp only [Act.put, List.setIfInBounds_toArray, List.set_cons_zero, List.set_cons_succ, i64_w, i32_w, IntKind.wrap_u32]
                rfl
               refine pure_ (i := 8) (N := some 35) (v := ?_) (a' := ?_) #[true, true, true, true, true, false, true, true, true, false, false, false, false, false, false] rfl rfl (any_of HT_.out (by kernel_rfl)) (fun _ _ _ h => h) (Or.inl ⟨by rfl, ?_⟩) ?_ ?_
               rotate_left
               ·
                intro w'
                go_simp
                with_reducible rfl
               rotate_left
               ·
                simp only [Act.put, List.setIfInBounds_toArray, List.set_cons_zero, List.set_cons_succ, i64_w, i32_w, IntKind.wrap_u32]
                rfl
               refine pure_ (i := 9) (N := some 36) (v := ?_) (a' := ?_) #[true, true, true, true, true, false, true, true, true, true, false, false, false, false, false] rfl rfl (any_of HT_.out (by kernel_rfl)) (fun _ _ _ h => h) (Or.inl ⟨by rfl, ?_⟩) ?_ ?_
               rotate_left
               ·
                intro w'
                go_simp
                with_reducible rfl
               rotate_left
               ·
                simp only [Act.put, List.setIfInBounds_toArray, List.set_cons_zero, List.set_cons_succ, i64_w, i32_w, IntKind.wrap_u32]
                rfl
               refine pure_ (i := 10) (N := some 37) (v := ?_) (a' := ?_) #[true, true, true, true, true, false, true, true, true, true, true, false, false, false, false] rfl rfl (any_of HT_.out (by kernel_rfl)) (fun _ _ _ h => h) (Or.inl ⟨by rfl, ?_⟩) ?_ ?_
               rotate_left
               ·
                intro w'
                go_simp
                with_reducible rfl
               rotate_left
               ·
                simp only [Act.put, List.setIfInBounds_toArray, List.set_cons_zero, List.set_cons_succ, i64_w, i32_w, IntKind.wrap_u32]
                rfl
               refine take_ (i := 11) (N := some 38) (v := ?_) (a' := ?_) #[true, true, true, true, true, false, true, true, true, true, true, true, false, false, false] rfl rfl (take_ofW HT_.out HW_.out (by kernel_rfl)) (fun _ _ _ h => h) (Or.inl ⟨by rfl, ?_⟩) hHeld ?_ ?_
               rotate_left
               ·
                intro w' s0
                go_simp
                with_reducible rfl
               rotate_left
               ·
                simp only [Act.put, List.setIfInBounds_toArray, List.set_cons_zero, List.set_cons_succ, i64_w, i32_w, IntKind.wrap_u32]
                rfl
               refine one_ (i := 5) (N := some 32) #[true, true, true, true, true, true, true, true, true, true, true, true, false, false, false] rfl rfl (one_of HT_.out (by kernel_rfl)) (by decide) (fun K hK => ?_)
               refine goes_ Try.func17 (by kernel_rfl) rfl #[.slice A5_0 (rd_L2 l0 x23_2).length c5_0, .int .u32 (rd t1 x14_1)] (by rfl) rfl rfl (by (try simp only [List.map_toArray, List.map_cons, List.map_nil]); first | done | rfl | (simp only [List.length_drop, List.length_take]; rfl)) ?_
               with_reducible refine (q4z.calls k2 _ _ (rd_L2 l0 x23_2) (rd t1 x14_1) t6 _ ?side1 ?side2 A12.out).mono ?_
               (case side1 => repeat (first | exact (Kd.C_below HR5_0.out HB.out) | (with_reducible refine Kd.C_alloc ?_ _) | (with_reducible refine Kd.C_drewN ?_ _) | (with_reducible refine Kd.C_drew ?_)))
               (case side2 => exact HC5_0.out)
               rintro e w19 ⟨rfl, hb⟩
               have HS0_ := (hb.cell (World.block_lt_of_cell? _ _ (hHeld))).trans (hHeld)
               refine ⟨_, rfl, ?_⟩
               have n0_ := Aside0.mk (Kd.R_below (by (with_reducible repeat (first | apply Kd.R_alloc | apply Kd.R_drewN | apply Kd.R_drew)); exact HO_3.out) hb)
               have n1_ := Aside0.mk (Kd.R_below (by (with_reducible repeat (first | apply Kd.R_alloc | apply Kd.R_drewN | apply Kd.R_drew)); exact HO_4.out) hb)
               have n2_ := Aside0.mk (Kd.R_below (by (with_reducible repeat (first | apply Kd.R_alloc | apply Kd.R_drewN | apply Kd.R_drew)); exact HO_12.out) hb)
               have n3_ := Aside0.mk (below_step (by repeat (first | (with_reducible first | exact HB.out | apply below_alloc | apply pw_below_drewN | apply below_drew1) | exact HB.out)) hb)
               clear HO_3
               clear HO_4
               clear HO_12
               clear HB
               have HO_3 := n0_
               have HO_4 := n1_
               have HO_12 := n2_
               have HB := n3_
               clear n0_ n1_ n2_ n3_
               (try clear hb)
               (try clear hb2)
               (try clear hk)
               (try clear hi)
               refine hK.out _ _ (HS0_) (fun hHeld => ?_)
               clear hK K
               refine norm_ (a' := ?_) ?_ ?_
               rotate_left
               ·
                show Act.put _ (some 32) _ = _
                simp only [Act.put, List.setIfInBounds_toArray, List.set_cons_zero, List.set_cons_succ, i64_w, i32_w, IntKind.wrap_u32]
                rfl
               refine one_ (i := 12) (N := some 39) #[true, true, true, true, true, true, true, true, true, true, true, true, true, false, false] rfl rfl (one_of HT_.out (by kernel_rfl)) (by decide) (fun K hK => ?_)
               refine goes_ Try.func17 (by kernel_rfl) rfl #[.slice A5_0 (rd_L2 l0 x23_2).length c5_0, .int .u32 (rd t1 (ji13))] (by rfl) rfl rfl (by (try simp only [List.map_toArray, List.map_cons, List.map_nil]); first | done | (simp only [hji13]; rfl) | rfl | (simp only [List.length_drop, List.length_take]; rfl)) ?_
               with_reducible refine (q4z.calls k2 _ _ (rd_L2 l0 x23_2) (rd t1 (ji13)) t8 _ ?side1 ?side2 A16.out).mono ?_
               (case side1 => repeat (first | exact (Kd.C_below HR5_0.out HB.out) | (with_reducible refine Kd.C_alloc ?_ _) | (with_reducible refine Kd.C_drewN ?_ _) | (with_reducible refine Kd.C_drew ?_)))
               (case side2 => exact HC5_0.out)
               rintro e w20 ⟨rfl, hb⟩
               have HS0_ := (hb.cell (World.block_lt_of_cell? _ _ (hHeld))).trans (hHeld)
               refine ⟨_, rfl, ?_⟩
               have n0_ := Aside0.mk (Kd.R_below (by (with_reducible repeat (first | apply Kd.R_alloc | apply Kd.R_drewN | apply Kd.R_drew)); exact HO_3.out) hb)
               have n1_ := Aside0.mk (Kd.R_below (by (with_reducible repeat (first | apply Kd.R_alloc | apply Kd.R_drewN | apply Kd.R_drew)); exact HO_4.out) hb)
               have n2_ := Aside0.mk (Kd.R_below (by (with_reducible repeat (first | apply Kd.R_alloc | apply Kd.R_drewN | apply Kd.R_drew)); exact HO_12.out) hb)
               have n3_ := Aside0.mk (below_step (by repeat (first | (with_reducible first | exact HB.out | apply below_alloc | apply pw_below_drewN | apply below_drew1) | exact HB.out)) hb)
               clear HO_3
               clear HO_4
               clear HO_12
               clear HB
               have HO_3 := n0_
               have HO_4 := n1_
               have HO_12 := n2_
               have HB := n3_
               clear n0_ n1_ n2_ n3_
               (try clear hb)
               (try clear hb2)
               (try clear hk)
               (try clear hi)
               refine hK.out _ _ (HS0_) (fun hHeld => ?_)
               clear hK K
               refine norm_ (a' := ?_) ?_ ?_
               rotate_left
               ·
                show Act.put _ (some 39) _ = _
                simp only [Act.put, List.setIfInBounds_toArray, List.set_cons_zero, List.set_cons_succ, i64_w, i32_w, IntKind.wrap_u32]
                rfl
               refine pure_ (i := 13) (N := some 40) (v := ?_) (a' := ?_) #[true, true, true, true, true, true, true, true, true, true, true, true, true, true, false] rfl rfl (any_of HT_.out (by kernel_rfl)) (fun _ _ _ h => h) (Or.inl ⟨by rfl, ?_⟩) ?_ ?_
               rotate_left
               ·
                intro w'
                go_simp
                with_reducible rfl
               rotate_left
               ·
                simp only [Act.put, List.setIfInBounds_toArray, List.set_cons_zero, List.set_cons_succ, i64_w, i32_w, IntKind.wrap_u32]
                rfl
               refine pure_ (i := 14) (N := some 41) (v := ?_) (a' := ?_) #[true, true, true, true, true, true, true, true, true, true, true, true, true, true, true] rfl rfl (any_of HT_.out (by kernel_rfl)) (fun _ _ _ h => h) (Or.inl ⟨by rfl, ?_⟩) ?_ ?_
               rotate_left
               ·
                intro w'
                go_simp
                with_reducible rfl
               rotate_left
               ·
                simp only [Act.put, List.setIfInBounds_toArray, List.set_cons_zero, List.set_cons_succ, i64_w, i32_w, IntKind.wrap_u32]
                rfl
               refine done_ (done_of HT_.out (by kernel_rfl)) ?_
               try go_wp2
               go_roundg k2
               case measure => have := HK1.out; have := HK2.out; omega
               case rel => exact ⟨(false), (wrap64 (x23_2 + 1)), (by first | rfl | (simp; done) | (simp [*]; done)), (by first | rfl | (simp; done) | (simp [*]; done)), H', ⟨by have := HK1.out; have := HK2.out; omega⟩, ⟨by (with_reducible repeat (first | apply Kd.R_alloc | apply Kd.R_drewN | apply Kd.R_drew)); exact HO_3.out⟩, ⟨by (with_reducible repeat (first | apply Kd.R_alloc | apply Kd.R_drewN | apply Kd.R_drew)); exact HO_4.out⟩, ⟨by (with_reducible repeat (first | apply Kd.R_alloc | apply Kd.R_drewN | apply Kd.R_drew)); exact HO_12.out⟩, ⟨by repeat (first | (with_reducible first | exact HB.out | apply below_alloc | apply pw_below_drewN | apply below_drew1) | exact HB.out)⟩⟩
              ·
               rw [if_neg c17] at H
               have c17b0 : (t6 != t8) = false := by simpa using c17
               (try (have c17b1 : decide (t6 = t8) = true := by simpa using c17))
               (try (have c17b2 : (t6 == t8) = true := by simpa using c17))
               clear c17
               have H' := Aside0.mk H
               clear H
               have p5 : 0 ≤ (x23_2 : Int) := of_decide_eq_true (by first | (with_reducible assumption) | assumption)
               have q5 : x23_2 < (l0.length : Int) := of_decide_eq_true (by first | (with_reducible assumption) | assumption)
               obtain ⟨ad5, A5_0, c5_0, e5, hx5_0, hl5_0, hi5_0⟩ := at_L2 HR0.out x23_2 p5 q5
               cases e5
               replace hx5_0 := (HB.out.cell (World.block_lt_of_cell? w _ hx5_0)).trans hx5_0
               have HR5_0 := Aside0.mk hi5_0
               have HC5_0 := Aside0.mk hl5_0
               clear hi5_0 hl5_0
               replace p5 := eq_true p5
               replace q5 := eq_true q5
               try go_wp2
               have n0_ := Aside0.mk (Kd.R_drew HO_3.out)
               have n1_ := Aside0.mk (Kd.R_drew HO_4.out)
               have n2_ := Aside0.mk (Kd.R_drew HO_12.out)
               have n3_ := Aside0.mk (below_drew1 HB.out)
               clear HO_3
               clear HO_4
               clear HO_12
               clear HB
               have HO_3 := n0_
               have HO_4 := n1_
               have HO_12 := n2_
               have HB := n3_
               clear n0_ n1_ n2_ n3_
               have p7 : 0 ≤ ((ji13) : Int) := of_decide_eq_true (by first | (with_reducible assumption) | assumption)
               have q7 : (ji13) < (t1.length : Int) := of_decide_eq_true (by first | (with_reducible assumption) | assumption)
               obtain ⟨ad7, e7, hx7_0⟩ := Kd.at_int (Kd.R_reads' HO_3.out).2.2 (ji13) p7 q7
               obtain rfl : ad4 = ad7 := (by injection e7)
               replace p7 := eq_true p7
               replace q7 := eq_true q7
               refine start_ (n := 15) (S := fun w' => w'.cell? (ad4.add ((ji13)).toNat) = some (.int .u32 (rd t1 (ji13)))) (ds := []) #[false, false, false, false, false, false, false, false, false, false, false, false, false, false, false] (by kernel_rfl) rfl rfl (hx7_0) (fun hHeld => ?_); refine with_tabW q8z.tab10 q8z.bits10 (fun HT_ HW_ => ?_)
               generalize wr.drew = w21 at HO_3 HO_4 HO_12 HB hx7_0 hHeld ⊢
               refine pure_ (i := 0) (N := some 27) (v := ?_) (a' := ?_) #[true, false, false, false, false, false, false, false, false, false, false, false, false, false, false] rfl rfl (any_of HT_.out (by kernel_rfl)) (fun _ _ _ h => h) (Or.inl ⟨by rfl, ?_⟩) ?_ ?_
               rotate_left
               ·
                intro w'
                go_simp
                with_reducible rfl
               rotate_left
               ·
                simp only [Act.put, List.setIfInBounds_toArray, List.set_cons_zero, List.set_cons_succ, i64_w, i32_w, IntKind.wrap_u32]
                rfl
               refine pure_ (i := 1) (N := some 28) (v := ?_) (a' := ?_) #[true, true, false, false, false, false, false, false, false, false, false, false, false, false, false] rfl rfl (any_of HT_.out (by kernel_rfl)) (fun _ _ _ h => h) (Or.inl ⟨by rfl, ?_⟩) ?_ ?_
               rotate_left
               ·
                intro w'
                go_simp
                with_reducible rfl
               rotate_left
               ·
                simp only [Act.put, List.setIfInBounds_toArray, List.set_cons_zero, List.set_cons_succ, i64_w, i32_w, IntKind.wrap_u32]
                rfl
               refine pure_ (i := 2) (N := some 29) (v := ?_) (a' := ?_) #[true, true, true, false, false, false, false, false, false, false, false, false, false, false, false] rfl rfl (any_of HT_.out (by kernel_rfl)) (fun _ _ _ h => h) (Or.inl ⟨by rfl, ?_⟩) ?_ ?_
               rotate_left
               ·
                intro w'
                go_simp
                with_reducible rfl
               rotate_left
               ·
                simp only [Act.put, List.setIfInBounds_toArray, List.set_cons_zero, List.set_cons_succ, i64_w, i32_w, IntKind.wrap_u32]
                rfl
               refine pure_ (i := 3) (N := some 30) (v := ?_) (a' := ?_) #[true, true, true, true, false, false, false, false, false, false, false, false, false, false, false] rfl rfl (any_of HT_.out (by kernel_rfl)) (fun _ _ _ h => h) (Or.inl ⟨by rfl, ?_⟩) ?_ ?_
               rotate_left
               ·
                intro w'
                go_simp
                with_reducible rfl
               rotate_left
               ·
                simp only [Act.put, List.setIfInBounds_toArray, List.set_cons_zero, List.set_cons_succ, i64_w, i32_w, IntKind.wrap_u32]
                rfl
               refine pure_ (i := 4) (N := some 31) (v := ?_) (a' := ?_) #[true, true, true, true, true, false, false, false, false, false, false, false, false, false, false] rfl rfl (any_of HT_.out (by kernel_rfl)) (fun _ _ _ h => h) (Or.inl ⟨by rfl, ?_⟩) ?_ ?_
               rotate_left
               ·
                intro w'
                go_simp
                with_reducible rfl
               rotate_left
               ·
                simp only [Act.put, List.setIfInBounds_toArray, List.set_cons_zero, List.set_cons_succ, i64_w, i32_w, IntKind.wrap_u32]
                rfl
               refine pure_ (i := 6) (N := some 33) (v := ?_) (a' := ?_) #[true, true, true, true, true, false, true, false, false, false, false, false, false, false, false] rfl rfl (any_of HT_.out (by kernel_rfl)) (fun _ _ _ h => h) (Or.inl ⟨by rfl, ?_⟩) ?_ ?_
               rotate_left
               ·
                intro w'
                go_simp
                with_reducible rfl
               rotate_left
               ·
                simp only [Act.put, List.setIfInBounds_toArray, List.set_cons_zero, List.set_cons_succ, i64_w, i32_w, IntKind.wrap_u32]
                rfl
               refine pure_ (i := 7) (N := some 34) (v := ?_) (a' := ?_) #[true, true, true, true, true, false, true, true, false, false, false, false, false, false, false] rfl rfl (any_of HT_.out (by kernel_rfl)) (fun _ _ _ h => h) (Or.inl ⟨by rfl, ?_⟩) ?_ ?_
               rotate_left
               ·
                intro w'
                go_simp
                with_reducible rfl
               rotate_left
               ·
                simp only [Act.put, List.setIfInBounds_toArray, List.set_cons_zero, List.set_cons_succ, i64_w, i32_w, IntKind.wrap_u32]
                rfl
               refine pure_ (i := 8) (N := some 35) (v := ?_) (a' := ?_) #[true, true, true, true, true, false, true, true, true, false, false, false, false, false, false] rfl rfl (any_of HT_.out (by kernel_rfl)) (fun _ _ _ h => h) (Or.inl ⟨by rfl, ?_⟩) ?_ ?_
               rotate_left
               ·
                intro w'
                go_simp
                with_reducible rfl
               rotate_left
               ·
                simp only [Act.put, List.setIfInBounds_toArray, List.set_cons_zero, List.set_cons_succ, i64_w, i32_w, IntKind.wrap_u32]
                rfl
               refine pure_ (i := 9) (N := some 36) (v := ?_) (a' := ?_) #[true, true, true, true, true, false, true, true, true, true, false, false, false, false, false] rfl rfl (any_of HT_.out (by kernel_rfl)) (fun _ _ _ h => h) (Or.inl ⟨by rfl, ?_⟩) ?_ ?_
               rotate_left
               ·
                intro w'
                go_simp
                with_reducible rfl
               rotate_left
               ·
                simp only [Act.put, List.setIfInBounds_toArray, List.set_cons_zero, List.set_cons_succ, i64_w, i32_w, IntKind.wrap_u32]
                rfl
               refine pure_ (i := 10) (N := some 37) (v := ?_) (a' := ?_) #[true, true, true, true, true, false, true, true, true, true, true, false, false, false, false] rfl rfl (any_of HT_.out (by kernel_rfl)) (fun _ _ _ h => h) (Or.inl ⟨by rfl, ?_⟩) ?_ ?_
               rotate_left
               ·
                intro w'
                go_simp
                with_reducible rfl
               rotate_left
               ·
                simp only [Act.put, List.setIfInBounds_toArray, List.set_cons_zero, List.set_cons_succ, i64_w, i32_w, IntKind.wrap_u32]
                rfl
               refine take_ (i := 11) (N := some 38) (v := ?_) (a' := ?_) #[true, true, true, true, true, false, true, true, true, true, true, true, false, false, false] rfl rfl (take_ofW HT_.out HW_.out (by kernel_rfl)) (fun _ _ _ h => h) (Or.inl ⟨by rfl, ?_⟩) hHeld ?_ ?_
               rotate_left
               ·
                intro w' s0
                go_simp
                with_reducible rfl
               rotate_left
               ·
                simp only [Act.put, List.setIfInBounds_toArray, List.set_cons_zero, List.set_cons_succ, i64_w, i32_w, IntKind.wrap_u32]
                rfl
               refine one_ (i := 5) (N := some 32) #[true, true, true, true, true, true, true, true, true, true, true, true, false, false, false] rfl rfl (one_of HT_.out (by kernel_rfl)) (by decide) (fun K hK => ?_)
               refine goes_ Try.func17 (by kernel_rfl) rfl #[.slice A5_0 (rd_L2 l0 x23_2).length c5_0, .int .u32 (rd t1 x14_1)] (by rfl) rfl rfl (by (try simp only [List.map_toArray, List.map_cons, List.map_nil]); first | done | rfl | (simp only [List.length_drop, List.length_take]; rfl)) ?_
               with_reducible refine (q4z.calls k2 _ _ (rd_L2 l0 x23_2) (rd t1 x14_1) t6 _ ?side1 ?side2 A12.out).mono ?_
               (case side1 => repeat (first | exact (Kd.C_below HR5_0.out HB.out) | (with_reducible refine Kd.C_alloc ?_ _) | (with_reducible refine Kd.C_drewN ?_ _) | (with_reducible refine Kd.C_drew ?_)))
               (case side2 => exact HC5_0.out)
               rintro e w22 ⟨rfl, hb⟩
               have HS0_ := (hb.cell (World.block_lt_of_cell? _ _ (hHeld))).trans (hHeld)
               refine ⟨_, rfl, ?_⟩
               have n0_ := Aside0.mk (Kd.R_below (by (with_reducible repeat (first | apply Kd.R_alloc | apply Kd.R_drewN | apply Kd.R_drew)); exact HO_3.out) hb)
               have n1_ := Aside0.mk (Kd.R_below (by (with_reducible repeat (first | apply Kd.R_alloc | apply Kd.R_drewN | apply Kd.R_drew)); exact HO_4.out) hb)
               have n2_ := Aside0.mk (Kd.R_below (by (with_reducible repeat (first | apply Kd.R_alloc | apply Kd.R_drewN | apply Kd.R_drew)); exact HO_12.out) hb)
               have n3_ := Aside0.mk (below_step (by repeat (first | (with_reducible first | exact HB.out | apply below_alloc | apply pw_below_drewN | apply below_drew1) | exact HB.out)) hb)
               clear HO_3
               clear HO_4
               clear HO_12
               clear HB
               have HO_3 := n0_
               have HO_4 := n1_
               have HO_12 := n2_
               have HB := n3_
               clear n0_ n1_ n2_ n3_
               (try clear hb)
               (try clear hb2)
               (try clear hk)
               (try clear hi)
               refine hK.out _ _ (HS0_) (fun hHeld => ?_)
               clear hK K
               refine norm_ (a' := ?_) ?_ ?_
               rotate_left
               ·
                show Act.put _ (some 32) _ = _
                simp only [Act.put, List.setIfInBounds_toArray, List.set_cons_zero, List.set_cons_succ, i64_w, i32_w, IntKind.wrap_u32]
                rfl
               refine one_ (i := 12) (N := some 39) #[true, true, true, true, true, true, true, true, true, true, true, true, true, false, false] rfl rfl (one_of HT_.out (by kernel_rfl)) (by decide) (fun K hK => ?_)
               refine goes_ Try.func17 (by kernel_rfl) rfl #[.slice A5_0 (rd_L2 l0 x23_2).length c5_0, .int .u32 (rd t1 (ji13))] (by rfl) rfl rfl (by (try simp only [List.map_toArray, List.map_cons, List.map_nil]); first | done | (simp only [hji13]; rfl) | rfl | (simp only [List.length_drop, List.length_take]; rfl)) ?_
               with_reducible refine (q4z.calls k2 _ _ (rd_L2 l0 x23_2) (rd t1 (ji13)) t8 _ ?side1 ?side2 A16.out).mono ?_
               (case side1 => repeat (first | exact (Kd.C_below HR5_0.out HB.out) | (with_reducible refine Kd.C_alloc ?_ _) | (with_reducible refine Kd.C_drewN ?_ _) | (with_reducible refine Kd.C_drew ?_)))
               (case side2 => exact HC5_0.out)
               rintro e w23 ⟨rfl, hb⟩
               have HS0_ := (hb.cell (World.block_lt_of_cell? _ _ (hHeld))).trans (hHeld)
               refine ⟨_, rfl, ?_⟩
               have n0_ := Aside0.mk (Kd.R_below (by (with_reducible repeat (first | apply Kd.R_alloc | apply Kd.R_drewN | apply Kd.R_drew)); exact HO_3.out) hb)
               have n1_ := Aside0.mk (Kd.R_below (by (with_reducible repeat (first | apply Kd.R_alloc | apply Kd.R_drewN | apply Kd.R_drew)); exact HO_4.out) hb)
               have n2_ := Aside0.mk (Kd.R_below (by (with_reducible repeat (first | apply Kd.R_alloc | apply Kd.R_drewN | apply Kd.R_drew)); exact HO_12.out) hb)
               have n3_ := Aside0.mk (below_step (by repeat (first | (with_reducible first | exact HB.out | apply below_alloc | apply pw_below_drewN | apply below_drew1) | exact HB.out)) hb)
               clear HO_3
               clear HO_4
               clear HO_12
               clear HB
               have HO_3 := n0_
               have HO_4 := n1_
               have HO_12 := n2_
               have HB := n3_
               clear n0_ n1_ n2_ n3_
               (try clear hb)
               (try clear hb2)
               (try clear hk)
               (try clear hi)
               refine hK.out _ _ (HS0_) (fun hHeld => ?_)
               clear hK K
               refine norm_ (a' := ?_) ?_ ?_
               rotate_left
               ·
                show Act.put _ (some 39) _ = _
                simp only [Act.put, List.setIfInBounds_toArray, List.set_cons_zero, List.set_cons_succ, i64_w, i32_w, IntKind.wrap_u32]
                rfl
               refine pure_ (i := 13) (N := some 40) (v := ?_) (a' := ?_) #[true, true, true, true, true, true, true, true, true, true, true, true, true, true, false] rfl rfl (any_of HT_.out (by kernel_rfl)) (fun _ _ _ h => h) (Or.inl ⟨by rfl, ?_⟩) ?_ ?_
               rotate_left
               ·
                intro w'
                go_simp
                with_reducible rfl
               rotate_left
               ·
                simp only [Act.put, List.setIfInBounds_toArray, List.set_cons_zero, List.set_cons_succ, i64_w, i32_w, IntKind.wrap_u32]
                rfl
               refine pure_ (i := 14) (N := some 41) (v := ?_) (a' := ?_) #[true, true, true, true, true, true, true, true, true, true, true, true, true, true, true] rfl rfl (any_of HT_.out (by kernel_rfl)) (fun _ _ _ h => h) (Or.inl ⟨by rfl, ?_⟩) ?_ ?_
               rotate_left
               ·
                intro w'
                go_simp
                with_reducible rfl
               rotate_left
               ·
                simp only [Act.put, List.setIfInBounds_toArray, List.set_cons_zero, List.set_cons_succ, i64_w, i32_w, IntKind.wrap_u32]
                rfl
               refine done_ (done_of HT_.out (by kernel_rfl)) ?_
               try go_wp2
               go_roundg k2
               case measure => have := HK1.out; have := HK2.out; omega
               case rel => exact ⟨(x7_2), (wrap64 (x23_2 + 1)), (by first | rfl | (simp; done) | (simp [*]; done)), (by first | rfl | (simp; done) | (simp [*]; done)), H', ⟨by have := HK1.out; have := HK2.out; omega⟩, ⟨by (with_reducible repeat (first | apply Kd.R_alloc | apply Kd.R_drewN | apply Kd.R_drew)); exact HO_3.out⟩, ⟨by (with_reducible repeat (first | apply Kd.R_alloc | apply Kd.R_drewN | apply Kd.R_drew)); exact HO_4.out⟩, ⟨by (with_reducible repeat (first | apply Kd.R_alloc | apply Kd.R_drewN | apply Kd.R_drew)); exact HO_12.out⟩, ⟨by repeat (first | (with_reducible first | exact HB.out | apply below_alloc | apply pw_below_drewN | apply below_drew1) | exact HB.out)⟩⟩
             ·
              rw [if_neg c15] at H
              exact absurd H (by simp)
            ·
             rw [if_neg c14] at H
             exact absurd H (by simp)
           ·
            rw [if_neg c11] at H
            have c11b0 : decide (0 < x14_1) = false := decide_eq_false c11
            clear c11
            have H' := Aside0.mk H
            clear H
            have p5 : 0 ≤ (x23_2 : Int) := of_decide_eq_true (by first | (with_reducible assumption) | assumption)
            have q5 : x23_2 < (l0.length : Int) := of_decide_eq_true (by first | (with_reducible assumption) | assumption)
            obtain ⟨ad5, A5_0, c5_0, e5, hx5_0, hl5_0, hi5_0⟩ := at_L2 HR0.out x23_2 p5 q5
            cases e5
            replace hx5_0 := (HB.out.cell (World.block_lt_of_cell? w _ hx5_0)).trans hx5_0
            have HR5_0 := Aside0.mk hi5_0
            have HC5_0 := Aside0.mk hl5_0
            clear hi5_0 hl5_0
            replace p5 := eq_true p5
            replace q5 := eq_true q5
            try go_wp2
            have n0_ := Aside0.mk (Kd.R_drew HO_3.out)
            have n1_ := Aside0.mk (Kd.R_drew HO_4.out)
            have n2_ := Aside0.mk (Kd.R_drew HO_12.out)
            have n3_ := Aside0.mk (below_drew1 HB.out)
            clear HO_3
            clear HO_4
            clear HO_12
            clear HB
            have HO_3 := n0_
            have HO_4 := n1_
            have HO_12 := n2_
            have HB := n3_
            clear n0_ n1_ n2_ n3_
            refine start_ (n := 15) (S := fun w' => True) (ds := []) #[false, false, false, false, false, false, false, false, false, false, false, false, false, false, false] (by kernel_rfl) rfl rfl trivial (fun hHeld => ?_); refine with_tabW q8z.tab10 q8z.bits10 (fun HT_ HW_ => ?_)
            generalize wr.drew = w24 at HO_3 HO_4 HO_12 HB hHeld ⊢
            refine pure_ (i := 0) (N := some 27) (v := ?_) (a' := ?_) #[true, false, false, false, false, false, false, false, false, false, false, false, false, false, false] rfl rfl (any_of HT_.out (by kernel_rfl)) (fun _ _ _ h => h) (Or.inl ⟨by rfl, ?_⟩) ?_ ?_
            rotate_left
            ·
             intro w'
             go_simp
             with_reducible rfl
            rotate_left
            ·
             simp only [Act.put, List.setIfInBounds_toArray, List.set_cons_zero, List.set_cons_succ, i64_w, i32_w, IntKind.wrap_u32]
             rfl
            refine pure_ (i := 1) (N := some 28) (v := ?_) (a' := ?_) #[true, true, false, false, false, false, false, false, false, false, false, false, false, false, false] rfl rfl (any_of HT_.out (by kernel_rfl)) (fun _ _ _ h => h) (Or.inl ⟨by rfl, ?_⟩) ?_ ?_
            rotate_left
            ·
             intro w'
             go_simp
             with_reducible rfl
            rotate_left
            ·
             simp only [Act.put, List.setIfInBounds_toArray, List.set_cons_zero, List.set_cons_succ, i64_w, i32_w, IntKind.wrap_u32]
             rfl
            refine pure_ (i := 2) (N := some 29) (v := ?_) (a' := ?_) #[true, true, true, false, false, false, false, false, false, false, false, false, false, false, false] rfl rfl (any_of HT_.out (by kernel_rfl)) (fun _ _ _ h => h) (Or.inl ⟨by rfl, ?_⟩) ?_ ?_
            rotate_left
            ·
             intro w'
             go_simp
             with_reducible rfl
            rotate_left
            ·
             simp only [Act.put, List.setIfInBounds_toArray, List.set_cons_zero, List.set_cons_succ, i64_w, i32_w, IntKind.wrap_u32]
             rfl
            refine pure_ (i := 3) (N := some 30) (v := undef) (a' := ?_) #[true, true, true, true, false, false, false, false, false, false, false, false, false, false, false] rfl rfl (any_of HT_.out (by kernel_rfl)) (fun _ _ _ h => h) (Or.inr ⟨by rfl, rfl⟩) ?_ ?_
            rotate_left
            ·
             simp only [Act.put, List.setIfInBounds_toArray, List.set_cons_zero, List.set_cons_succ, i64_w, i32_w, IntKind.wrap_u32]
             rfl
            refine pure_ (i := 4) (N := some 31) (v := undef) (a' := ?_) #[true, true, true, true, true, false, false, false, false, false, false, false, false, false, false] rfl rfl (any_of HT_.out (by kernel_rfl)) (fun _ _ _ h => h) (Or.inr ⟨by rfl, rfl⟩) ?_ ?_
            rotate_left
            ·
             simp only [Act.put, List.setIfInBounds_toArray, List.set_cons_zero, List.set_cons_succ, i64_w, i32_w, IntKind.wrap_u32]
             rfl
            refine pure_ (i := 5) (N := some 32) (v := undef) (a' := ?_) #[true, true, true, true, true, true, false, false, false, false, false, false, false, false, false] rfl rfl (any_of HT_.out (by kernel_rfl)) (fun _ _ _ h => h) (Or.inr ⟨by rfl, rfl⟩) ?_ ?_
            rotate_left
            ·
             simp only [Act.put, List.setIfInBounds_toArray, List.set_cons_zero, List.set_cons_succ, i64_w, i32_w, IntKind.wrap_u32]
             rfl
            refine pure_ (i := 6) (N := some 33) (v := undef) (a' := ?_) #[true, true, true, true, true, true, true, false, false, false, false, false, false, false, false] rfl rfl (any_of HT_.out (by kernel_rfl)) (fun _ _ _ h => h) (Or.inr ⟨by rfl, rfl⟩) ?_ ?_
            rotate_left
            ·
             simp only [Act.put, List.setIfInBounds_toArray, List.set_cons_zero, List.set_cons_succ, i64_w, i32_w, IntKind.wrap_u32]
             rfl
            refine pure_ (i := 7) (N := some 34) (v := undef) (a' := ?_) #[true, true, true, true, true, true, true, true, false, false, false, false, false, false, false] rfl rfl (any_of HT_.out (by kernel_rfl)) (fun _ _ _ h => h) (Or.inr ⟨by rfl, rfl⟩) ?_ ?_
            rotate_left
            ·
             simp only [Act.put, List.setIfInBounds_toArray, List.set_cons_zero, List.set_cons_succ, i64_w, i32_w, IntKind.wrap_u32]
             rfl
            refine pure_ (i := 8) (N := some 35) (v := undef) (a' := ?_) #[true, true, true, true, true, true, true, true, true, false, false, false, false, false, false] rfl rfl (any_of HT_.out (by kernel_rfl)) (fun _ _ _ h => h) (Or.inr ⟨by rfl, rfl⟩) ?_ ?_
            rotate_left
            ·
             simp only [Act.put, List.setIfInBounds_toArray, List.set_cons_zero, List.set_cons_succ, i64_w, i32_w, IntKind.wrap_u32]
             rfl
            refine pure_ (i := 9) (N := some 36) (v := undef) (a' := ?_) #[true, true, true, true, true, true, true, true, true, true, false, false, false, false, false] rfl rfl (any_of HT_.out (by kernel_rfl)) (fun _ _ _ h => h) (Or.inr ⟨by rfl, rfl⟩) ?_ ?_
            rotate_left
            ·
             simp only [Act.put, List.setIfInBounds_toArray, List.set_cons_zero, List.set_cons_succ, i64_w, i32_w, IntKind.wrap_u32]
             rfl
            refine pure_ (i := 10) (N := some 37) (v := undef) (a' := ?_) #[true, true, true, true, true, true, true, true, true, true, true, false, false, false, false] rfl rfl (any_of HT_.out (by kernel_rfl)) (fun _ _ _ h => h) (Or.inr ⟨by rfl, rfl⟩) ?_ ?_
            rotate_left
            ·
             simp only [Act.put, List.setIfInBounds_toArray, List.set_cons_zero, List.set_cons_succ, i64_w, i32_w, IntKind.wrap_u32]
             rfl
            refine pure_ (i := 11) (N := some 38) (v := undef) (a' := ?_) #[true, true, true, true, true, true, true, true, true, true, true, true, false, false, false] rfl rfl (any_of HT_.out (by kernel_rfl)) (fun _ _ _ h => h) (Or.inr ⟨by rfl, rfl⟩) ?_ ?_
            rotate_left
            ·
             simp only [Act.put, List.setIfInBounds_toArray, List.set_cons_zero, List.set_cons_succ, i64_w, i32_w, IntKind.wrap_u32]
             rfl
            refine pure_ (i := 12) (N := some 39) (v := undef) (a' := ?_) #[true, true, true, true, true, true, true, true, true, true, true, true, true, false, false] rfl rfl (any_of HT_.out (by kernel_rfl)) (fun _ _ _ h => h) (Or.inr ⟨by rfl, rfl⟩) ?_ ?_
            rotate_left
            ·
             simp only [Act.put, List.setIfInBounds_toArray, List.set_cons_zero, List.set_cons_succ, i64_w, i32_w, IntKind.wrap_u32]
             rfl
            refine pure_ (i := 13) (N := some 40) (v := undef) (a' := ?_) #[true, true, true, true, true, true, true, true, true, true, true, true, true, true, false] rfl rfl (any_of HT_.out (by kernel_rfl)) (fun _ _ _ h => h) (Or.inr ⟨by rfl, rfl⟩) ?_ ?_
            rotate_left
            ·
             simp only [Act.put, List.setIfInBounds_toArray, List.set_cons_zero, List.set_cons_succ, i64_w, i32_w, IntKind.wrap_u32]
             rfl
            refine pure_ (i := 14) (N := some 41) (v := ?_) (a' := ?_) #[true, true, true, true, true, true, true, true, true, true, true, true, true, true, true] rfl rfl (any_of HT_.out (by kernel_rfl)) (fun _ _ _ h => h) (Or.inl ⟨by rfl, ?_⟩) ?_ ?_
            rotate_left
            ·
             intro w'
             go_simp
             with_reducible rfl
            rotate_left
            ·
             simp only [Act.put, List.setIfInBounds_toArray, List.set_cons_zero, List.set_cons_succ, i64_w, i32_w, IntKind.wrap_u32]
             rfl
            refine done_ (done_of HT_.out (by kernel_rfl)) ?_
            try go_wp2
            go_roundg k2
            case measure => have := HK1.out; have := HK2.out; omega
            case rel => exact ⟨(x7_2), (wrap64 (x23_2 + 1)), (by first | rfl | (simp; done) | (simp [*]; done)), (by first | rfl | (simp; done) | (simp [*]; done)), H', ⟨by have := HK1.out; have := HK2.out; omega⟩, ⟨by (with_reducible repeat (first | apply Kd.R_alloc | apply Kd.R_drewN | apply Kd.R_drew)); exact HO_3.out⟩, ⟨by (with_reducible repeat (first | apply Kd.R_alloc | apply Kd.R_drewN | apply Kd.R_drew)); exact HO_4.out⟩, ⟨by (with_reducible repeat (first | apply Kd.R_alloc | apply Kd.R_drewN | apply Kd.R_drew)); exact HO_12.out⟩, ⟨by repeat (first | (with_reducible first | exact HB.out | apply below_alloc | apply pw_below_drewN | apply below_drew1) | exact HB.out)⟩⟩
          ·
           rw [if_neg c10] at H
           exact absurd H (by simp)
         ·
          rw [if_neg c9] at H
          exact absurd H (by simp)
        ·
         rw [if_neg c8] at H
         have c8b0 : decide (x23_2 < (l0.length : Int)) = false := decide_eq_false c8
         clear c8
         by_cases c25 : x7_2 = true
         ·
          subst c25
          have H1 : ((q7z.f t1 x14_1).bind fun t9 => (if 0 ≤ (wrap64 ((x4_1.length : Int) - 1)) then (if (wrap64 ((x4_1.length : Int) - 1)) < (x4_1.length : Int) then (q8z.l0 k2 l0 t1 (x4_1.set ((wrap64 ((x4_1.length : Int) - 1)) : Int).toNat (⟨(rd_T33 x4_1 (wrap64 ((x4_1.length : Int) - 1))).f0, t9⟩ : S33)) t1 (t1.length : Int) (wrap64 (x14_1 + 1))) else (none)) else (none))) = some r := by rw [if_pos rfl] at H; exact H
          clear H
          have H := H1
          clear H1
          replace H := Option.bind_eq_some_iff.mp H
          obtain ⟨t9, A260, H⟩ := H
          replace H : (if 0 ≤ (wrap64 ((x4_1.length : Int) - 1)) then (if (wrap64 ((x4_1.length : Int) - 1)) < (x4_1.length : Int) then (q8z.l0 k2 l0 t1 (x4_1.set ((wrap64 ((x4_1.length : Int) - 1)) : Int).toNat (⟨(rd_T33 x4_1 (wrap64 ((x4_1.length : Int) - 1))).f0, t9⟩ : S33)) t1 (t1.length : Int) (wrap64 (x14_1 + 1))) else (none)) else (none)) = some r := H
          have A26 := Aside0.mk A260
          clear A260
          obtain ⟨ji27, hji27⟩ : ∃ j_ : Int, (wrap64 ((x4_1.length : Int) - 1)) = j_ := ⟨_, rfl⟩
          replace H : (if 0 ≤ (ji27) then (if (ji27) < (x4_1.length : Int) then (q8z.l0 k2 l0 t1 (x4_1.set ((ji27) : Int).toNat (⟨(rd_T33 x4_1 (ji27)).f0, t9⟩ : S33)) t1 (t1.length : Int) (wrap64 (x14_1 + 1))) else (none)) else (none)) = some r := by first | (rw [hji27] at H; exact H) | (simp only [hji27] at H ⊢; exact H)
          (try rw [hji27] at A26)
          have hji27w : (IntKind.i64.wrap ((x4_1.length : Int) - 1)) = ji27 := (i64_w _).trans hji27
          by_cases c28 : 0 ≤ (ji27)
          ·
           rw [if_pos c28] at H
           have c28b0 : decide (0 ≤ (ji27)) = true := decide_eq_true c28
           clear c28
           by_cases c29 : (ji27) < (x4_1.length : Int)
           ·
            rw [if_pos c29] at H
            have c29b0 : decide ((ji27) < (x4_1.length : Int)) = true := decide_eq_true c29
            clear c29
            obtain ⟨y10, hy10⟩ : ∃ y_ : List (S33), y_ = (x4_1.set ((ji27) : Int).toNat (⟨(rd_T33 x4_1 (ji27)).f0, t9⟩ : S33)) := ⟨_, rfl⟩
            replace H : (q8z.l0 k2 l0 t1 y10 t1 (t1.length : Int) (wrap64 (x14_1 + 1))) = some r := by first | (rw [hy10]; with_reducible exact H) | (have H2_ := (Option.bind_some _ _).symm.trans H; rw [hy10]; with_reducible exact H2_) | (have H2_ := (Option.bind_some _ _).symm.trans H; with_reducible exact H2_) | with_reducible exact H | (rw [hy10]; exact H) | exact H
            have Ny10 := Aside0.mk hy10
            clear hy10
            have H' := Aside0.mk H
            clear H
            obtain ⟨Ao31, co31, eo31⟩ := Kd.R_slice HO_4.out
            subst eo31
            go_wp2_with (first | ((with_reducible refine gate_callee (f := 25) rfl ?_); refine goesL_ (some 50) rfl rfl Try.func25 (by kernel_rfl) rfl #[.slice (some ad4) t1.length co4, .int .i64 x14_1] rfl (by (try simp only [List.map_toArray, List.map_cons, List.map_nil]); first | done | rfl | (simp only [List.length_drop, List.length_take]; rfl)) ?_; (with_reducible refine (q7z.calls _ _ t1 x14_1 t9 _ ?side1 ?side2 A26.out).mono ?_); (case side1 => repeat (first | exact (Kd.R_reads' HO_3.out).2.2 | (with_reducible refine Kd.C_alloc ?_ _) | (with_reducible refine Kd.C_drewN ?_ _) | (with_reducible refine Kd.C_drew ?_))); (case side2 => exact (Kd.R_reads' HO_3.out).2.1); rintro e w' ⟨rfl, ⟨nd, rfl⟩⟩; refine ⟨_, rfl, ?_⟩; (try (rw [drewN_self wr]; generalize hq_ : World.drewN wr _ = wr; have n0_ : Aside0 (Kd.R (Kd.int .u32) 29 wr w.heap.size (fun _ => True) (.slice (some ad4) t1.length co4) t1) := ⟨by rw [← hq_]; exact (by (with_reducible repeat (first | apply Kd.R_alloc | apply Kd.R_drewN | apply Kd.R_drew)); exact HO_12.out)⟩; have n1_ : Aside0 (Kd.R (Kd.int .u32) 29 wr w.heap.size (fun _ => True) (.slice (some ad4) t1.length co4) t1) := ⟨by rw [← hq_]; exact (by (with_reducible repeat (first | apply Kd.R_alloc | apply Kd.R_drewN | apply Kd.R_drew)); exact HO_3.out)⟩; have n2_ : Aside0 (Kd.R k33 33 wr w.heap.size (fun _ => True) (.slice Ao31 x4_1.length co31) x4_1) := ⟨by rw [← hq_]; exact (by (with_reducible repeat (first | apply Kd.R_alloc | apply Kd.R_drewN | apply Kd.R_drew)); exact HO_4.out)⟩; have n3_ : Aside0 (Below w.heap.size w wr) := ⟨by rw [← hq_]; exact (by repeat (first | (with_reducible first | exact HB.out | apply below_alloc | apply pw_below_drewN | apply below_drew1) | exact HB.out))⟩; clear HO_12 HO_3 HO_4 HB hq_; have HO_12 := n0_; have HO_3 := n1_; have HO_4 := n2_; have HB := n3_; clear n0_ n1_ n2_ n3_)); have p30 : 0 ≤ ((ji27) : Int) := of_decide_eq_true (by first | (with_reducible assumption) | assumption); have q30 : ((ji27) : Int) < ((x4_1.length : Int) : Int) := of_decide_eq_true (by first | (with_reducible assumption) | assumption); obtain ⟨go30, co30, eo30, gb30, gl30, cl30, HG30⟩ := Kd.R_form HO_4.out (by omega); (first | cases eo30 | (injection eo30 with ea_ en_ ec_; (first | subst ea_ | (injection ea_ with ea_; subst ea_)); subst ec_; clear en_)); have GB30 := Aside0.mk gb30; have GG30 := Aside0.mk HG30; clear gb30 gl30 HG30; obtain ⟨ce30, hcl30, hM30, hcc30, hfr30⟩ := Kd.R_elem HO_4.out z33 ((ji27) : Int) p30 q30; obtain rfl := k33_openM hM30; have hx30_0 : wr.cell? ⟨go30, ((ji27) : Int).toNat * 2, none⟩ = some (.int .u32 ((rd_T33 x4_1 (ji27)).f0)) := hcc30 0 _ rfl; have hx30_1 : wr.cell? ⟨go30, ((ji27) : Int).toNat * 2 + 1, none⟩ = some (.int .u32 ((rd_T33 x4_1 (ji27)).f1)) := hcc30 1 _ rfl; have hf30_0 : wr.frozen? ⟨go30, ((ji27) : Int).toNat * 2, none⟩ = false := hfr30 0; have hf30_1 : wr.frozen? ⟨go30, ((ji27) : Int).toNat * 2 + 1, none⟩ = false := hfr30 1; clear hcl30 hcc30 hfr30 hM30; replace p30 := eq_true p30; replace q30 := eq_true q30; have HX32 := Aside0.mk (show Kd.R k33 33 wr w.heap.size (fun _ => True) (.slice (some ⟨go30, 0, none⟩) x4_1.length co31) x4_1 from (by (with_reducible repeat (first | apply Kd.R_alloc | apply Kd.R_drewN | apply Kd.R_drew)); exact HO_4.out)); obtain ⟨ce32, hcl32, hM32, hcc32, hfr32⟩ := Kd.R_elem HX32.out z33 ((ji27) : Int) (of_decide_eq_true (by first | (with_reducible assumption) | assumption)) (by have h_ : ((ji27) : Int) < ((x4_1.length : Int) : Int) := of_decide_eq_true (by first | (with_reducible assumption) | assumption); first | exact h_ | (have e_ := (Kd.R_reads' HO_4.out).1; omega) | simpa using h_); obtain rfl := k33_openM hM32; have HP32 := Kd.R_seg HX32.out ((ji27) : Int) (of_decide_eq_true (by first | (with_reducible assumption) | assumption)) (by have h_ : ((ji27) : Int) < ((x4_1.length : Int) : Int) := of_decide_eq_true (by first | (with_reducible assumption) | assumption); first | exact h_ | (have e_ := (Kd.R_reads' HO_4.out).1; omega) | simpa using h_) (seg := [.int .u32 t9]) (j := 1) hcl32 hcc32 (show 2 ≤ 2 from by decide) (x' := (⟨(rd_T33 x4_1 (ji27)).f0, t9⟩ : S33)) (k33_mkM _ _ _ (⟨(rd_T33 x4_1 (ji27)).f0, t9⟩ : S33) ) (fun _ hk => hk); have hx32_1 := hcc32 1 _ rfl; (try simp only [show (k33).sz = 2 from rfl, Nat.mul_one, Nat.add_zero] at hx32_1); have hf32_1 := hfr32 1; (try simp only [show (k33).sz = 2 from rfl, Nat.mul_one, Nat.add_zero] at hf32_1); clear hcl32 hcc32 hfr32 hM32) | ((with_reducible refine gate_store (t := 29) (p := 52) rfl ?_); refine store_event (t := 29) (p := 52) (v := ?vo_w33) (w1 := (wr.setCell ⟨go30, ((ji27) : Int).toNat * 2 + 1, none⟩ (.int .u32 t9))) ?hg ?ho ?hn ?hr ?_; (case ho => rfl); (case hg => rfl); (case hn => rfl); (case hr => first | (go_simp; done) | (go_simp; rfl)); intro w33 hw; have hg : wr.grownBy w33 (some go30) := (by rw [hw]; exact HP32.2); have hp_ : Kd.R k33 33 w33 w.heap.size (fun _ => True) (.slice (some ⟨go30, 0, none⟩) x4_1.length co31) y10 := (by rw [hw, Ny10.out]; exact HP32.1); clear HP32; have n0_ := Aside0.mk (Kd.R_over' (v := (.slice (some ⟨go30, 0, none⟩) x4_1.length co31)) (by (with_reducible repeat (first | apply Kd.R_alloc | apply Kd.R_drewN | apply Kd.R_drew)); exact HO_3.out) (Kd.R_typed HO_4.out) (by decide) hg); have n1_ := Aside0.mk (hp_); have n2_ := Aside0.mk (Kd.R_over' (v := (.slice (some ⟨go30, 0, none⟩) x4_1.length co31)) (by (with_reducible repeat (first | apply Kd.R_alloc | apply Kd.R_drewN | apply Kd.R_drew)); exact HO_12.out) (Kd.R_typed HO_4.out) (by decide) hg); have n3_ := Aside0.mk ((by rw [hw]; exact below_set (HB.out) GB30.out : Below w.heap.size w w33)); clear HO_3; clear HO_4; clear HO_12; clear HB; have HO_3 := n0_; have HO_4 := n1_; have HO_12 := n2_; have HB := n3_; clear n0_ n1_ n2_ n3_; clear hg hw hp_))
            go_roundg k2
            case measure => have := HK1.out; have := HK2.out; omega
            case rel => exact ⟨(y10), (wrap64 (x14_1 + 1)), (by first | rfl | (simp; done) | (simp [*]; done)), H', ⟨by have := HK1.out; have := HK2.out; omega⟩, ⟨by (with_reducible repeat (first | apply Kd.R_alloc | apply Kd.R_drewN | apply Kd.R_drew)); exact HO_3.out⟩, ⟨by (with_reducible repeat (first | apply Kd.R_alloc | apply Kd.R_drewN | apply Kd.R_drew)); exact HO_4.out⟩, ⟨by (with_reducible repeat (first | apply Kd.R_alloc | apply Kd.R_drewN | apply Kd.R_drew)); exact HO_12.out⟩, ⟨by repeat (first | (with_reducible first | exact HB.out | apply below_alloc | apply pw_below_drewN | apply below_drew1) | exact HB.out)⟩⟩
           ·
            rw [if_neg c29] at H
            exact absurd H (by simp)
          ·
           rw [if_neg c28] at H
           exact absurd H (by simp)
         ·
          replace c25 := Bool.eq_false_iff.mpr c25
          subst c25
          have H1 : ((q7z.f t1 x14_1).bind fun t11 => (if x4_1.length < 17592186044416 then (q8z.l0 k2 l0 t1 (x4_1 ++ [(⟨(rd t1 x14_1), t11⟩ : S33)]) t1 (t1.length : Int) (wrap64 (x14_1 + 1))) else (none))) = some r := by rw [if_neg (show ¬ (false = true) by decide)] at H; exact H
          clear H
          have H := H1
          clear H1
          replace H := Option.bind_eq_some_iff.mp H
          obtain ⟨t11, A340, H⟩ := H
          replace H : (if x4_1.length < 17592186044416 then (q8z.l0 k2 l0 t1 (x4_1 ++ [(⟨(rd t1 x14_1), t11⟩ : S33)]) t1 (t1.length : Int) (wrap64 (x14_1 + 1))) else (none)) = some r := H
          have A34 := Aside0.mk A340
          clear A340
          by_cases c35 : x4_1.length < 17592186044416
          ·
           rw [if_pos c35] at H
           have LMc35 := Aside0.mk c35
           clear c35
           obtain ⟨y12, hy12⟩ : ∃ y_ : List (S33), y_ = (x4_1 ++ [(⟨(rd t1 x14_1), t11⟩ : S33)]) := ⟨_, rfl⟩
           replace H : (q8z.l0 k2 l0 t1 y12 t1 (t1.length : Int) (wrap64 (x14_1 + 1))) = some r := by first | (rw [hy12]; with_reducible exact H) | (have H2_ := (Option.bind_some _ _).symm.trans H; rw [hy12]; with_reducible exact H2_) | (have H2_ := (Option.bind_some _ _).symm.trans H; with_reducible exact H2_) | with_reducible exact H | (rw [hy12]; exact H) | exact H
           have Ny12 := Aside0.mk hy12
           clear hy12
           have H' := Aside0.mk H
           clear H
           go_wp2_with (first | ((with_reducible refine gate_callee (f := 25) rfl ?_); refine goesL_ (some 57) rfl rfl Try.func25 (by kernel_rfl) rfl #[.slice (some ad4) t1.length co4, .int .i64 x14_1] rfl (by (try simp only [List.map_toArray, List.map_cons, List.map_nil]); first | done | rfl | (simp only [List.length_drop, List.length_take]; rfl)) ?_; (with_reducible refine (q7z.calls _ _ t1 x14_1 t11 _ ?side1 ?side2 A34.out).mono ?_); (case side1 => repeat (first | exact (Kd.R_reads' HO_3.out).2.2 | (with_reducible refine Kd.C_alloc ?_ _) | (with_reducible refine Kd.C_drewN ?_ _) | (with_reducible refine Kd.C_drew ?_))); (case side2 => exact (Kd.R_reads' HO_3.out).2.1); rintro e w' ⟨rfl, ⟨nd, rfl⟩⟩; refine ⟨_, rfl, ?_⟩) | ((with_reducible refine gate_builtin (b := .append) (xs := #[.tmp 53, .tmp 59]) rfl ?_); at_builtin; refine Kd.R_append k33 (w0 := w) w.heap.size rfl (.tmp 53) (.tmp 59) 24 33 (.agg #[(.int .u32 0), (.int .u32 0)]) 8 rfl Try.underlying24 info33 rfl (by decide) (by omega) u4 x4_1 (⟨(rd t1 x14_1), t11⟩ : S33) [.int .u32 (rd t1 x14_1), .int .u32 t11] (fun _ => True) (fun _ => False) rfl rfl ?aP (fun _ hk => hk.elim) ?aF ?aO ?aB ?aS ?aL ?_; (case aP => exact k33_mkM _ _ _ (⟨(rd t1 x14_1), t11⟩ : S33)); (case aB => exact (by repeat (first | (with_reducible first | exact HB.out | apply below_alloc | apply pw_below_drewN | apply below_drew1) | exact HB.out))); (case aF => exact (fun _ _ => trivial)); (case aO => exact (by (with_reducible repeat (first | apply Kd.R_alloc | apply Kd.R_drewN | apply Kd.R_drew)); exact HO_4.out)); (case aS => exact (below_size (by repeat (first | (with_reducible first | exact HB.out | apply below_alloc | apply pw_below_drewN | apply below_drew1) | exact HB.out)))); (case aL => have := LMc35.out; omega); intro v13 w36 ho hb hg hat; rw [← Ny12.out] at ho; have n0_ := Aside0.mk (Kd.R_over' (by (with_reducible repeat (first | apply Kd.R_alloc | apply Kd.R_drewN | apply Kd.R_drew)); exact HO_3.out) (Kd.R_typed (by (with_reducible repeat (first | apply Kd.R_alloc | apply Kd.R_drewN | apply Kd.R_drew)); exact HO_4.out)) (by decide) hg); have n1_ := Aside0.mk (Kd.R_over' (by (with_reducible repeat (first | apply Kd.R_alloc | apply Kd.R_drewN | apply Kd.R_drew)); exact HO_12.out) (Kd.R_typed (by (with_reducible repeat (first | apply Kd.R_alloc | apply Kd.R_drewN | apply Kd.R_drew)); exact HO_4.out)) (by decide) hg); have n2_ := Aside0.mk (hb); have n3_ := Aside0.mk (ho); clear HO_3; clear HO_12; clear HB; clear HO_4; have HO_3 := n0_; have HO_12 := n1_; have HB := n2_; have HO14 := n3_; clear n0_ n1_ n2_ n3_; clear ho hb hg hat))
           go_roundg k2
           case measure => have := HK1.out; have := HK2.out; omega
           case rel => exact ⟨(y12), (wrap64 (x14_1 + 1)), (by first | rfl | (simp; done) | (simp [*]; done)), H', ⟨by have := HK1.out; have := HK2.out; omega⟩, ⟨by (with_reducible repeat (first | apply Kd.R_alloc | apply Kd.R_drewN | apply Kd.R_drew)); exact HO_3.out⟩, ⟨by (with_reducible repeat (first | apply Kd.R_alloc | apply Kd.R_drewN | apply Kd.R_drew)); exact HO14.out⟩, ⟨by (with_reducible repeat (first | apply Kd.R_alloc | apply Kd.R_drewN | apply Kd.R_drew)); exact HO_12.out⟩, ⟨by repeat (first | (with_reducible first | exact HB.out | apply below_alloc | apply pw_below_drewN | apply below_drew1) | exact HB.out)⟩⟩
          ·
           rw [if_neg c35] at H
           exact absurd H (by simp)
     ·
      rw [if_neg c7] at H
      exact absurd H (by simp)
    ·
     rw [if_neg c6] at H
     exact absurd H (by simp)
   ·
    rw [if_neg c5] at H
    have c5b0 : decide (x14_1 < (t1.length : Int)) = false := decide_eq_false c5
    clear c5
    obtain rfl := Option.some.inj H
    go_wp2
    go_ret
    exact ⟨_, by first | rfl | (simp [errW_none, errW_some] <;> rfl) | (simp [*, errW_none, errW_some] <;> rfl), by (with_reducible repeat (first | apply Kd.R_alloc | apply Kd.R_drewN | apply Kd.R_drew)); exact HO_4.out, by repeat (first | (with_reducible first | exact HB.out | apply below_alloc | apply pw_below_drewN | apply below_drew1) | exact HB.out)⟩

end Go.Proofs.Ytconaifcjnpabaa.P

namespace Go.Proofs.Ytconaifcjnpabaa.P
open Go.RowKit Go.Proofs.YtconaifcjnpabaaW.PrintWords Go.Proofs.YtconaifcjnpabaaW.PrintLast Go.Proofs.YtconaifcjnpabaaW.PrintMore
attribute [local go_sem] max2_int min2_int max_two min_two max_three min_three max_four min_four
set_option linter.unusedVariables false
set_option linter.unusedSimpArgs false

/-! ### span_Not: function 21 -/
def q9z.l0 : Nat → List (S33) → Int → List (S33) → Int → Int → Option ((List (S33)))
 | 0, _, _, _, _, _ => none
 | k + 1, x3, x4, x8, x9, x10 => if x10 < x9 then (if 0 ≤ x10 then (if x10 < (x8.length : Int) then (if ((rd_T33 x8 x10).f0) > x4 then (if x3.length < 17592186044416 then ((some (x3 ++ [(⟨x4, (((rd_T33 x8 x10).f0) - 1) % 4294967296⟩ : S33)] : List (S33))).bind fun y9 => (if ((rd_T33 x8 x10).f1) = 4294967295 then (some y9) else (q9z.l0 k y9 ((((rd_T33 x8 x10).f1) + 1) % 4294967296) x8 x9 (wrap64 (x10 + 1))))) else (none)) else (if ((rd_T33 x8 x10).f1) = 4294967295 then (some x3) else (q9z.l0 k x3 ((((rd_T33 x8 x10).f1) + 1) % 4294967296) x8 x9 (wrap64 (x10 + 1))))) else (none)) else (none)) else (if x3.length < 17592186044416 then (some (x3 ++ [(⟨x4, 4294967295⟩ : S33)])) else (none))
def q9z.f (k : Nat) (l0 : List (S33)) : Option ((List (S33))) := (q2z.f k l0).bind fun t1 => (q9z.l0 k ([] : List (S33)) 0 t1 (t1.length : Int) 0)
theorem q9z.mono_l : ∀ k, (∀ y0 y1 y2 y3 y4, LeO (q9z.l0 k y0 y1 y2 y3 y4) (q9z.l0 (k + 1) y0 y1 y2 y3 y4))
 | 0 => fun _ _ _ _ _ r h => by simp [q9z.l0] at h
 | k + 1 => by
  have ih0 := q9z.mono_l k
  ·
   intro y0 y1 y2 y3 y4
   unfold q9z.l0
   repeat' first
   | (with_reducible exact ih0 _ _ _ _ _)
   | (with_reducible exact q2z.mono _ _)
   | (with_reducible exact LeO.refl _)
   | (with_reducible exact LeO.none _)
   | (with_reducible refine LeO.ite ?_ ?_)
   | (with_reducible refine LeO.bind ?_ (fun _ => ?_))
   | exact ih0 _ _ _ _ _
   | exact q2z.mono _ _
   | exact LeO.none _
   | refine LeO.ite ?_ ?_
   | refine LeO.bind ?_ (fun _ => ?_)
theorem q9z.mono : ∀ a0 k, LeO (q9z.f k a0) (q9z.f (k + 1) a0) := by
 intro a0 k
 have ih0 := q9z.mono_l k
 unfold q9z.f
 repeat' first
   | (with_reducible exact ih0 _ _ _ _ _)
   | (with_reducible exact q2z.mono _ _)
   | (with_reducible exact LeO.refl _)
   | (with_reducible exact LeO.none _)
   | (with_reducible refine LeO.ite ?_ ?_)
   | (with_reducible refine LeO.bind ?_ (fun _ => ?_))
   | exact ih0 _ _ _ _ _
   | exact q2z.mono _ _
   | exact LeO.none _
   | refine LeO.ite ?_ ?_
   | refine LeO.bind ?_ (fun _ => ?_)
set_option maxHeartbeats 8000000 in
set_option maxRecDepth 100000 in
theorem q9z.calls (k : Nat) (A0 : Option Addr) (c0 : Nat) (l0 : List (S33)) (r : List (S33)) (w : World) (hr0 : Kd.C k33 w A0 l0.length l0) (hc0 : l0.length ≤ c0) (h : q9z.f k l0 = some r) :
  Calls Try.prog 21 #[.slice A0 l0.length c0] w fun e w' => ∃ v0_ : Value, e = .returned (v0_) ∧ Kd.R k33 33 w' w.heap.size (fun _ => True) v0_ r ∧ Below w.heap.size w w' := by
 have hu33 := Try.underlying33
 have HR0 := Aside0.mk hr0
 have HC0 := Aside0.mk hc0
 clear hr0 hc0
 have HB := Aside0.mk (Below.refl w.heap.size w)
 have H : ((q2z.f k l0).bind fun t1 => (q9z.l0 k ([] : List (S33)) 0 t1 (t1.length : Int) 0)) = some r := h
 clear h
 replace H := Option.bind_eq_some_iff.mp H
 obtain ⟨t1, A20, H⟩ := H
 replace H : (q9z.l0 k ([] : List (S33)) 0 t1 (t1.length : Int) 0) = some r := H
 have A2 := Aside0.mk A20
 clear A20
 have H' := Aside0.mk H
 clear H
 go_enter Try.func21, Try.ntmps21
 go_wp2_with (first | ((with_reducible refine gate_callee (f := 14) rfl ?_); refine goesL_ (some 8) rfl rfl Try.func14 (by kernel_rfl) rfl #[.slice A0 l0.length c0] rfl (by (try simp only [List.map_toArray, List.map_cons, List.map_nil]); first | done | rfl | (simp only [List.length_drop, List.length_take]; rfl)) ?_; (with_reducible refine (q2z.calls k _ _ l0 t1 _ ?side1 ?side2 A2.out).mono ?_); (case side1 => repeat (first | exact HR0.out | (with_reducible refine Kd.C_alloc ?_ _) | (with_reducible refine Kd.C_drewN ?_ _) | (with_reducible refine Kd.C_drew ?_))); (case side2 => exact HC0.out); rintro e w3 ⟨v2, rfl, ho0, hb⟩; refine ⟨_, rfl, ?_⟩; have n0_ := Aside0.mk (Kd.R_lower ho0 (below_size (by repeat (first | (with_reducible first | exact HB.out | apply below_alloc | apply pw_below_drewN | apply below_drew1) | exact HB.out)))); have n1_ := Aside0.mk (below_step (by repeat (first | (with_reducible first | exact HB.out | apply below_alloc | apply pw_below_drewN | apply below_drew1) | exact HB.out)) hb); clear HB; have HO3 := n0_; have HB := n1_; clear n0_ n1_; (try clear hb); (try clear hb2); (try clear hk); (try clear hi); (try clear ho0); obtain ⟨Ao4, co4, eo4⟩ := Kd.R_slice HO3.out; subst eo4))
 go_loopg [3, 4, 10] k (fun kq v3 v4 v10 w' => ∃ (x3_1 : List (S33)) (x4_1 : Int) (x10_1 : Int), v4 = .int .u32 x4_1 ∧ v10 = .int .i64 x10_1 ∧ Aside0 (q9z.l0 kq x3_1 x4_1 t1 (t1.length : Int) x10_1 = some r) ∧ Aside0 (kq ≤ k) ∧ Aside0 (Kd.R k33 33 w' w.heap.size (fun k_ => some k_ ≠ ((.slice Ao4 t1.length co4) : Value).ownBlock) v3 x3_1) ∧ Aside0 (Kd.R k33 33 w' w.heap.size (fun k_ => some k_ ≠ (v3 : Value).ownBlock) (.slice Ao4 t1.length co4) t1) ∧ Aside0 (Below w.heap.size w w'))
 case atStart => exact ⟨(([] : List (S33))), (0), (0), (by first | rfl | (simp; done) | (simp [*]; done)), (by first | rfl | (simp; done) | (simp [*]; done)), H', ⟨Nat.le_refl _⟩, ⟨by first | exact Kd.R_nil _ _ _ _ _ | exact Kd.N_nil _ _ _ _ _ | exact Kd.V_nil _ _ _ _ _ | exact Kd.Q_nil _ _ _ _ _ | exact Kd.S_nil _ _ _ _ _⟩, ⟨by (with_reducible repeat (first | apply Kd.R_alloc | apply Kd.R_drewN | apply Kd.R_drew)); exact Kd.R_mono HO3.out (fun _ hk => (by simp [Value.ownBlock]))⟩, ⟨by repeat (first | (with_reducible first | exact HB.out | apply below_alloc | apply pw_below_drewN | apply below_drew1) | exact HB.out)⟩⟩
 case round =>
  clear H'
  try clear c1
  try clear c2
  try clear p2
  obtain ⟨x3_1, x4_1, x10_1, rfl, rfl, HA, HK1, HO_3, HO_8, HB⟩ := hrel
  cases gk with
  | zero => exact absurd HA.out (by simp [q9z.l0])
  | succ k1 =>
   have H := HA.out
   clear HA
   simp only [q9z.l0] at H
   by_cases c5 : x10_1 < (t1.length : Int)
   ·
    rw [if_pos c5] at H
    have c5b0 : decide (x10_1 < (t1.length : Int)) = true := decide_eq_true c5
    clear c5
    by_cases c6 : 0 ≤ x10_1
    ·
     rw [if_pos c6] at H
     have c6b0 : decide (0 ≤ x10_1) = true := decide_eq_true c6
     clear c6
     by_cases c7 : x10_1 < (t1.length : Int)
     ·
      rw [if_pos c7] at H
      have c7b0 : decide (x10_1 < (t1.length : Int)) = true := decide_eq_true c7
      clear c7
      by_cases c8 : ((rd_T33 t1 x10_1).f0) > x4_1
      ·
       rw [if_pos c8] at H
       have c8b0 : decide (x4_1 < ((rd_T33 t1 x10_1).f0)) = true := decide_eq_true c8
       clear c8
       by_cases c9 : x3_1.length < 17592186044416
       ·
        rw [if_pos c9] at H
        have LMc9 := Aside0.mk c9
        clear c9
        obtain ⟨y9, hy9⟩ : ∃ y_ : List (S33), y_ = (x3_1 ++ [(⟨x4_1, (((rd_T33 t1 x10_1).f0) - 1) % 4294967296⟩ : S33)]) := ⟨_, rfl⟩
        replace H : (if ((rd_T33 t1 x10_1).f1) = 4294967295 then (some y9) else (q9z.l0 k1 y9 ((((rd_T33 t1 x10_1).f1) + 1) % 4294967296) t1 (t1.length : Int) (wrap64 (x10_1 + 1)))) = some r := by first | (rw [hy9]; with_reducible exact H) | (have H2_ := (Option.bind_some _ _).symm.trans H; rw [hy9]; with_reducible exact H2_) | (have H2_ := (Option.bind_some _ _).symm.trans H; with_reducible exact H2_) | with_reducible exact H | (rw [hy9]; exact H) | exact H
        have Ny9 := Aside0.mk hy9
        clear hy9
        by_cases c10 : ((rd_T33 t1 x10_1).f1) = 4294967295
        ·
         rw [if_pos c10] at H
         have c10b0 : (((rd_T33 t1 x10_1).f1) == 4294967295) = true := beq_iff_eq.mpr c10
         have c10b1 : (((rd_T33 t1 x10_1).f1) != 4294967295) = false := bne_eq_false_iff_eq.mpr c10
         clear c10
         obtain rfl := Option.some.inj H
         have p7 : 0 ≤ (x10_1 : Int) := of_decide_eq_true (by first | (with_reducible assumption) | assumption)
         have q7 : x10_1 < (t1.length : Int) := of_decide_eq_true (by first | (with_reducible assumption) | assumption)
         obtain ⟨ad7, e7, hx7_0, hx7_1⟩ := at_T33 (Kd.R_reads' HO_8.out).2.2 x10_1 p7 q7
         cases e7
         replace p7 := eq_true p7
         replace q7 := eq_true q7
         go_wp2_with (first | ((with_reducible refine gate_dst (N := 6) rfl ?_); refine box_event ?hg (N := 6) ?hd (cs := #[.int .u32 0, .int .u32 0]) (t := 33) ?hr ?_; (case hd => rfl); (case hg => rfl); (case hr => first | (go_simp; done) | (go_simp; rfl)); intro gb8 hg w11 hbox hb; have n0_ := Aside0.mk (Kd.R_below (Kd.R_elderB (by (with_reducible repeat (first | apply Kd.R_alloc | apply Kd.R_drewN | apply Kd.R_drew)); exact HO_3.out) gb8 (Nat.le_of_eq hg.symm)) hb); have n1_ := Aside0.mk (Kd.R_below (Kd.R_elderB (by (with_reducible repeat (first | apply Kd.R_alloc | apply Kd.R_drewN | apply Kd.R_drew)); exact HO_8.out) gb8 (Nat.le_of_eq hg.symm)) hb); have n2_ := Aside0.mk (below_step (by repeat (first | (with_reducible first | exact HB.out | apply below_alloc | apply pw_below_drewN | apply below_drew1) | exact HB.out)) hb); have n3_ := Aside0.mk (hbox); have n4_ := Aside0.mk ((by rw [hg]; exact (below_size (by repeat (first | (with_reducible first | exact HB.out | apply below_alloc | apply pw_below_drewN | apply below_drew1) | exact HB.out))) : w.heap.size ≤ gb8)); have n5_ := Aside0.mk ((by rw [hg]; exact (below_size (by repeat (first | (with_reducible first | exact HB.out | apply below_alloc | apply pw_below_drewN | apply below_drew1) | exact HB.out))) : w.heap.size ≤ gb8)); clear HO_3; clear HO_8; clear HB; have HO_3 := n0_; have HO_8 := n1_; have HB := n2_; have BK8 := n3_; have GW8 := n4_; have GE8 := n5_; clear n0_ n1_ n2_ n3_ n4_ n5_; clear hb hbox hg; have hcz12_0 : w11.cell? ⟨gb8, 0, none⟩ = some (.int .u32 0) := (blk_cell BK8.out 0).trans rfl; have hcz12_1 : w11.cell? ⟨gb8, 1, none⟩ = some (.int .u32 0) := (blk_cell BK8.out 1).trans rfl; have hfz12_0 := blk_frozen BK8.out 0; have hfz12_1 := blk_frozen BK8.out 1) | ((with_reducible refine gate_builtin (b := .append) (xs := #[.tmp 18, .tmp 24]) rfl ?_); at_builtin; refine Kd.R_append k33 (w0 := w) w.heap.size rfl (.tmp 18) (.tmp 24) 24 33 (.agg #[(.int .u32 0), (.int .u32 0)]) 8 rfl Try.underlying24 info33 rfl (by decide) (by omega) u3 x3_1 (⟨x4_1, (((rd_T33 t1 x10_1).f0) - 1) % 4294967296⟩ : S33) [.int .u32 x4_1, .int .u32 ((((rd_T33 t1 x10_1).f0) - 1) % 4294967296)] (fun k_ => some k_ ≠ (.slice (some ad7) t1.length co4 : Value).ownBlock ∧ k_ ≠ gb8) (fun _ => False) rfl (by first | (go_simp; done) | (go_simp; rfl)) ?aP (fun _ hk => hk.elim) ?aF ?aO ?aB ?aS ?aL ?_; (case aP => exact k33_mkM _ _ _ (⟨x4_1, (((rd_T33 t1 x10_1).f0) - 1) % 4294967296⟩ : S33)); (case aB => exact (by repeat (first | (with_reducible first | exact HB.out | apply below_alloc | apply pw_below_drewN | apply below_drew1 | refine below_set ?_ GE8.out) | exact HB.out))); (case aF => exact (fun k_ hk => ⟨Kd.fresh' (Kd.R_lt (by (with_reducible repeat (first | apply Kd.R_alloc | apply Kd.R_drewN | apply Kd.R_drew)); exact (Kd.R_mono (Kd.R_far (p := ⟨gb8, 1, none⟩) (Kd.R_far (p := ⟨gb8, 0, none⟩) (Kd.R_mono HO_8.out (fun k_ hk => (⟨hk, hk.2⟩ : _ ∧ k_ ≠ gb8))) (fun _ hk => hk.2) (.int .u32 ((rd_T33 t1 x10_1).f0))) (fun _ hk => hk.2) (.int .u32 ((rd_T33 t1 x10_1).f1))) (fun _ h_ => h_.1)))) k_ hk, Kd.freshB (g := gb8) (o := .cells #[.int .u32 ((rd_T33 t1 x10_1).f0), .int .u32 ((rd_T33 t1 x10_1).f1)] 33 (0, 0)) (by (with_reducible repeat (first | refine blk_drewN ?_ _ | refine blk_drew ?_ | refine blk_alloc ?_ _)); refine blk_put (cs := #[.int .u32 ((rd_T33 t1 x10_1).f0), .int .u32 0]) ?_ 1 _ rfl; (with_reducible repeat (first | refine blk_drewN ?_ _ | refine blk_drew ?_ | refine blk_alloc ?_ _)); refine blk_put (cs := #[.int .u32 0, .int .u32 0]) ?_ 0 _ rfl; (with_reducible repeat (first | refine blk_drewN ?_ _ | refine blk_drew ?_ | refine blk_alloc ?_ _)); exact BK8.out) k_ hk⟩)); (case aO => exact (by (with_reducible repeat (first | apply Kd.R_alloc | apply Kd.R_drewN | apply Kd.R_drew)); exact Kd.R_mono (Kd.R_far (p := ⟨gb8, 1, none⟩) (Kd.R_far (p := ⟨gb8, 0, none⟩) (Kd.R_mono HO_3.out (fun k_ hk => (⟨hk, hk.2⟩ : _ ∧ k_ ≠ gb8))) (fun _ hk => hk.2) (.int .u32 ((rd_T33 t1 x10_1).f0))) (fun _ hk => hk.2) (.int .u32 ((rd_T33 t1 x10_1).f1))) (fun _ hk => ⟨hk.1.1, hk.1.2⟩))); (case aS => exact (below_size (by repeat (first | (with_reducible first | exact HB.out | apply below_alloc | apply pw_below_drewN | apply below_drew1 | refine below_set ?_ GE8.out) | exact HB.out)))); (case aL => have := LMc9.out; omega); intro v10 w13 ho hb hg hat; rw [← Ny9.out] at ho; have n0_ := Aside0.mk (Kd.R_after (ok := (fun k_ => k_ ≠ gb8)) (by (with_reducible repeat (first | apply Kd.R_alloc | apply Kd.R_drewN | apply Kd.R_drew)); exact Kd.R_mono (Kd.R_far (p := ⟨gb8, 1, none⟩) (Kd.R_far (p := ⟨gb8, 0, none⟩) (Kd.R_mono HO_8.out (fun k_ hk => (⟨hk, hk.2⟩ : _ ∧ k_ ≠ gb8))) (fun _ hk => hk.2) (.int .u32 ((rd_T33 t1 x10_1).f0))) (fun _ hk => hk.2) (.int .u32 ((rd_T33 t1 x10_1).f1))) (fun _ hk => ⟨hk.1.2, hk.1.1⟩)) hg hat); have n1_ := Aside0.mk (blk_grown (g := gb8) (o := .cells #[.int .u32 ((rd_T33 t1 x10_1).f0), .int .u32 ((rd_T33 t1 x10_1).f1)] 33 (0, 0)) (by (with_reducible repeat (first | refine blk_drewN ?_ _ | refine blk_drew ?_ | refine blk_alloc ?_ _)); refine blk_put (cs := #[.int .u32 ((rd_T33 t1 x10_1).f0), .int .u32 0]) ?_ 1 _ rfl; (with_reducible repeat (first | refine blk_drewN ?_ _ | refine blk_drew ?_ | refine blk_alloc ?_ _)); refine blk_put (cs := #[.int .u32 0, .int .u32 0]) ?_ 0 _ rfl; (with_reducible repeat (first | refine blk_drewN ?_ _ | refine blk_drew ?_ | refine blk_alloc ?_ _)); exact BK8.out) hg (Kd.R_away HO_3.out (fun _ hk => hk.2))); have n2_ := Aside0.mk (hb); have n3_ := Aside0.mk (ho); clear HO_8; clear BK8; clear HB; clear HO_3; have HO_8 := n0_; have BK8 := n1_; have HB := n2_; have HO11 := n3_; clear n0_ n1_ n2_ n3_; clear ho hb hg hat; have hcz14_0 : w13.cell? ⟨gb8, 0, none⟩ = some (.int .u32 ((rd_T33 t1 x10_1).f0)) := (blk_cell BK8.out 0).trans rfl; have hcz14_1 : w13.cell? ⟨gb8, 1, none⟩ = some (.int .u32 ((rd_T33 t1 x10_1).f1)) := (blk_cell BK8.out 1).trans rfl; have hfz14_0 := blk_frozen BK8.out 0; have hfz14_1 := blk_frozen BK8.out 1))
         go_ret
         exact ⟨_, by first | rfl | (simp [errW_none, errW_some] <;> rfl) | (simp [*, errW_none, errW_some] <;> rfl), by (with_reducible repeat (first | apply Kd.R_alloc | apply Kd.R_drewN | apply Kd.R_drew)); exact Kd.R_mono HO11.out (fun _ hk => trivial), by repeat (first | (with_reducible first | exact HB.out | apply below_alloc | apply pw_below_drewN | apply below_drew1 | refine below_set ?_ GE8.out) | exact HB.out)⟩
        ·
         rw [if_neg c10] at H
         have c10b0 : (((rd_T33 t1 x10_1).f1) == 4294967295) = false := beq_eq_false_iff_ne.mpr c10
         have c10b1 : (((rd_T33 t1 x10_1).f1) != 4294967295) = true := bne_iff_ne.mpr c10
         have H' := Aside0.mk H
         clear H
         have p7 : 0 ≤ (x10_1 : Int) := of_decide_eq_true (by first | (with_reducible assumption) | assumption)
         have q7 : x10_1 < (t1.length : Int) := of_decide_eq_true (by first | (with_reducible assumption) | assumption)
         obtain ⟨ad7, e7, hx7_0, hx7_1⟩ := at_T33 (Kd.R_reads' HO_8.out).2.2 x10_1 p7 q7
         cases e7
         replace p7 := eq_true p7
         replace q7 := eq_true q7
         go_wp2_with (first | ((with_reducible refine gate_dst (N := 6) rfl ?_); refine box_event ?hg (N := 6) ?hd (cs := #[.int .u32 0, .int .u32 0]) (t := 33) ?hr ?_; (case hd => rfl); (case hg => rfl); (case hr => first | (go_simp; done) | (go_simp; rfl)); intro gb8 hg w15 hbox hb; have n0_ := Aside0.mk (Kd.R_below (Kd.R_elderB (by (with_reducible repeat (first | apply Kd.R_alloc | apply Kd.R_drewN | apply Kd.R_drew)); exact HO_3.out) gb8 (Nat.le_of_eq hg.symm)) hb); have n1_ := Aside0.mk (Kd.R_below (Kd.R_elderB (by (with_reducible repeat (first | apply Kd.R_alloc | apply Kd.R_drewN | apply Kd.R_drew)); exact HO_8.out) gb8 (Nat.le_of_eq hg.symm)) hb); have n2_ := Aside0.mk (below_step (by repeat (first | (with_reducible first | exact HB.out | apply below_alloc | apply pw_below_drewN | apply below_drew1) | exact HB.out)) hb); have n3_ := Aside0.mk (hbox); have n4_ := Aside0.mk ((by rw [hg]; exact (below_size (by repeat (first | (with_reducible first | exact HB.out | apply below_alloc | apply pw_below_drewN | apply below_drew1) | exact HB.out))) : w.heap.size ≤ gb8)); have n5_ := Aside0.mk ((by rw [hg]; exact (below_size (by repeat (first | (with_reducible first | exact HB.out | apply below_alloc | apply pw_below_drewN | apply below_drew1) | exact HB.out))) : w.heap.size ≤ gb8)); clear HO_3; clear HO_8; clear HB; have HO_3 := n0_; have HO_8 := n1_; have HB := n2_; have BK8 := n3_; have GW8 := n4_; have GE8 := n5_; clear n0_ n1_ n2_ n3_ n4_ n5_; clear hb hbox hg; have hcz16_0 : w15.cell? ⟨gb8, 0, none⟩ = some (.int .u32 0) := (blk_cell BK8.out 0).trans rfl; have hcz16_1 : w15.cell? ⟨gb8, 1, none⟩ = some (.int .u32 0) := (blk_cell BK8.out 1).trans rfl; have hfz16_0 := blk_frozen BK8.out 0; have hfz16_1 := blk_frozen BK8.out 1) | ((with_reducible refine gate_builtin (b := .append) (xs := #[.tmp 18, .tmp 24]) rfl ?_); at_builtin; refine Kd.R_append k33 (w0 := w) w.heap.size rfl (.tmp 18) (.tmp 24) 24 33 (.agg #[(.int .u32 0), (.int .u32 0)]) 8 rfl Try.underlying24 info33 rfl (by decide) (by omega) u3 x3_1 (⟨x4_1, (((rd_T33 t1 x10_1).f0) - 1) % 4294967296⟩ : S33) [.int .u32 x4_1, .int .u32 ((((rd_T33 t1 x10_1).f0) - 1) % 4294967296)] (fun k_ => some k_ ≠ (.slice (some ad7) t1.length co4 : Value).ownBlock ∧ k_ ≠ gb8) (fun _ => False) rfl (by first | (go_simp; done) | (go_simp; rfl)) ?aP (fun _ hk => hk.elim) ?aF ?aO ?aB ?aS ?aL ?_; (case aP => exact k33_mkM _ _ _ (⟨x4_1, (((rd_T33 t1 x10_1).f0) - 1) % 4294967296⟩ : S33)); (case aB => exact (by repeat (first | (with_reducible first | exact HB.out | apply below_alloc | apply pw_below_drewN | apply below_drew1 | refine below_set ?_ GE8.out) | exact HB.out))); (case aF => exact (fun k_ hk => ⟨Kd.fresh' (Kd.R_lt (by (with_reducible repeat (first | apply Kd.R_alloc | apply Kd.R_drewN | apply Kd.R_drew)); exact (Kd.R_mono (Kd.R_far (p := ⟨gb8, 1, none⟩) (Kd.R_far (p := ⟨gb8, 0, none⟩) (Kd.R_mono HO_8.out (fun k_ hk => (⟨hk, hk.2⟩ : _ ∧ k_ ≠ gb8))) (fun _ hk => hk.2) (.int .u32 ((rd_T33 t1 x10_1).f0))) (fun _ hk => hk.2) (.int .u32 ((rd_T33 t1 x10_1).f1))) (fun _ h_ => h_.1)))) k_ hk, Kd.freshB (g := gb8) (o := .cells #[.int .u32 ((rd_T33 t1 x10_1).f0), .int .u32 ((rd_T33 t1 x10_1).f1)] 33 (0, 0)) (by (with_reducible repeat (first | refine blk_drewN ?_ _ | refine blk_drew ?_ | refine blk_alloc ?_ _)); refine blk_put (cs := #[.int .u32 ((rd_T33 t1 x10_1).f0), .int .u32 0]) ?_ 1 _ rfl; (with_reducible repeat (first | refine blk_drewN ?_ _ | refine blk_drew ?_ | refine blk_alloc ?_ _)); refine blk_put (cs := #[.int .u32 0, .int .u32 0]) ?_ 0 _ rfl; (with_reducible repeat (first | refine blk_drewN ?_ _ | refine blk_drew ?_ | refine blk_alloc ?_ _)); exact BK8.out) k_ hk⟩)); (case aO => exact (by (with_reducible repeat (first | apply Kd.R_alloc | apply Kd.R_drewN | apply Kd.R_drew)); exact Kd.R_mono (Kd.R_far (p := ⟨gb8, 1, none⟩) (Kd.R_far (p := ⟨gb8, 0, none⟩) (Kd.R_mono HO_3.out (fun k_ hk => (⟨hk, hk.2⟩ : _ ∧ k_ ≠ gb8))) (fun _ hk => hk.2) (.int .u32 ((rd_T33 t1 x10_1).f0))) (fun _ hk => hk.2) (.int .u32 ((rd_T33 t1 x10_1).f1))) (fun _ hk => ⟨hk.1.1, hk.1.2⟩))); (case aS => exact (below_size (by repeat (first | (with_reducible first | exact HB.out | apply below_alloc | apply pw_below_drewN | apply below_drew1 | refine below_set ?_ GE8.out) | exact HB.out)))); (case aL => have := LMc9.out; omega); intro v10 w17 ho hb hg hat; rw [← Ny9.out] at ho; have n0_ := Aside0.mk (Kd.R_after (ok := (fun k_ => k_ ≠ gb8)) (by (with_reducible repeat (first | apply Kd.R_alloc | apply Kd.R_drewN | apply Kd.R_drew)); exact Kd.R_mono (Kd.R_far (p := ⟨gb8, 1, none⟩) (Kd.R_far (p := ⟨gb8, 0, none⟩) (Kd.R_mono HO_8.out (fun k_ hk => (⟨hk, hk.2⟩ : _ ∧ k_ ≠ gb8))) (fun _ hk => hk.2) (.int .u32 ((rd_T33 t1 x10_1).f0))) (fun _ hk => hk.2) (.int .u32 ((rd_T33 t1 x10_1).f1))) (fun _ hk => ⟨hk.1.2, hk.1.1⟩)) hg hat); have n1_ := Aside0.mk (blk_grown (g := gb8) (o := .cells #[.int .u32 ((rd_T33 t1 x10_1).f0), .int .u32 ((rd_T33 t1 x10_1).f1)] 33 (0, 0)) (by (with_reducible repeat (first | refine blk_drewN ?_ _ | refine blk_drew ?_ | refine blk_alloc ?_ _)); refine blk_put (cs := #[.int .u32 ((rd_T33 t1 x10_1).f0), .int .u32 0]) ?_ 1 _ rfl; (with_reducible repeat (first | refine blk_drewN ?_ _ | refine blk_drew ?_ | refine blk_alloc ?_ _)); refine blk_put (cs := #[.int .u32 0, .int .u32 0]) ?_ 0 _ rfl; (with_reducible repeat (first | refine blk_drewN ?_ _ | refine blk_drew ?_ | refine blk_alloc ?_ _)); exact BK8.out) hg (Kd.R_away HO_3.out (fun _ hk => hk.2))); have n2_ := Aside0.mk (hb); have n3_ := Aside0.mk (ho); clear HO_8; clear BK8; clear HB; clear HO_3; have HO_8 := n0_; have BK8 := n1_; have HB := n2_; have HO11 := n3_; clear n0_ n1_ n2_ n3_; clear ho hb hg hat; have hcz18_0 : w17.cell? ⟨gb8, 0, none⟩ = some (.int .u32 ((rd_T33 t1 x10_1).f0)) := (blk_cell BK8.out 0).trans rfl; have hcz18_1 : w17.cell? ⟨gb8, 1, none⟩ = some (.int .u32 ((rd_T33 t1 x10_1).f1)) := (blk_cell BK8.out 1).trans rfl; have hfz18_0 := blk_frozen BK8.out 0; have hfz18_1 := blk_frozen BK8.out 1))
         go_roundg k1
         case measure => have := HK1.out; omega
         case rel => exact ⟨(y9), ((((rd_T33 t1 x10_1).f1) + 1) % 4294967296), (wrap64 (x10_1 + 1)), (by first | rfl | (simp; done) | (simp [*]; done)), (by first | rfl | (simp; done) | (simp [*]; done)), H', ⟨by have := HK1.out; omega⟩, ⟨by (with_reducible repeat (first | apply Kd.R_alloc | apply Kd.R_drewN | apply Kd.R_drew)); exact Kd.R_mono HO11.out (fun _ hk => hk.1)⟩, ⟨by (with_reducible repeat (first | apply Kd.R_alloc | apply Kd.R_drewN | apply Kd.R_drew)); exact Kd.R_mono HO_8.out (fun _ hk => hk.2)⟩, ⟨by repeat (first | (with_reducible first | exact HB.out | apply below_alloc | apply pw_below_drewN | apply below_drew1 | refine below_set ?_ GE8.out) | exact HB.out)⟩⟩
       ·
        rw [if_neg c9] at H
        exact absurd H (by simp)
      ·
       rw [if_neg c8] at H
       have c8b0 : decide (x4_1 < ((rd_T33 t1 x10_1).f0)) = false := decide_eq_false c8
       clear c8
       by_cases c19 : ((rd_T33 t1 x10_1).f1) = 4294967295
       ·
        rw [if_pos c19] at H
        have c19b0 : (((rd_T33 t1 x10_1).f1) == 4294967295) = true := beq_iff_eq.mpr c19
        have c19b1 : (((rd_T33 t1 x10_1).f1) != 4294967295) = false := bne_eq_false_iff_eq.mpr c19
        clear c19
        obtain rfl := Option.some.inj H
        have p7 : 0 ≤ (x10_1 : Int) := of_decide_eq_true (by first | (with_reducible assumption) | assumption)
        have q7 : x10_1 < (t1.length : Int) := of_decide_eq_true (by first | (with_reducible assumption) | assumption)
        obtain ⟨ad7, e7, hx7_0, hx7_1⟩ := at_T33 (Kd.R_reads' HO_8.out).2.2 x10_1 p7 q7
        cases e7
        replace p7 := eq_true p7
        replace q7 := eq_true q7
        go_wp2_with (first | ((with_reducible refine gate_dst (N := 6) rfl ?_); refine box_event ?hg (N := 6) ?hd (cs := #[.int .u32 0, .int .u32 0]) (t := 33) ?hr ?_; (case hd => rfl); (case hg => rfl); (case hr => first | (go_simp; done) | (go_simp; rfl)); intro gb8 hg w20 hbox hb; have n0_ := Aside0.mk (Kd.R_below (Kd.R_elderB (by (with_reducible repeat (first | apply Kd.R_alloc | apply Kd.R_drewN | apply Kd.R_drew)); exact HO_3.out) gb8 (Nat.le_of_eq hg.symm)) hb); have n1_ := Aside0.mk (Kd.R_below (Kd.R_elderB (by (with_reducible repeat (first | apply Kd.R_alloc | apply Kd.R_drewN | apply Kd.R_drew)); exact HO_8.out) gb8 (Nat.le_of_eq hg.symm)) hb); have n2_ := Aside0.mk (below_step (by repeat (first | (with_reducible first | exact HB.out | apply below_alloc | apply pw_below_drewN | apply below_drew1) | exact HB.out)) hb); have n3_ := Aside0.mk (hbox); have n4_ := Aside0.mk ((by rw [hg]; exact (below_size (by repeat (first | (with_reducible first | exact HB.out | apply below_alloc | apply pw_below_drewN | apply below_drew1) | exact HB.out))) : w.heap.size ≤ gb8)); have n5_ := Aside0.mk ((by rw [hg]; exact (below_size (by repeat (first | (with_reducible first | exact HB.out | apply below_alloc | apply pw_below_drewN | apply below_drew1) | exact HB.out))) : w.heap.size ≤ gb8)); clear HO_3; clear HO_8; clear HB; have HO_3 := n0_; have HO_8 := n1_; have HB := n2_; have BK8 := n3_; have GW8 := n4_; have GE8 := n5_; clear n0_ n1_ n2_ n3_ n4_ n5_; clear hb hbox hg; have hcz21_0 : w20.cell? ⟨gb8, 0, none⟩ = some (.int .u32 0) := (blk_cell BK8.out 0).trans rfl; have hcz21_1 : w20.cell? ⟨gb8, 1, none⟩ = some (.int .u32 0) := (blk_cell BK8.out 1).trans rfl; have hfz21_0 := blk_frozen BK8.out 0; have hfz21_1 := blk_frozen BK8.out 1))
        go_ret
        exact ⟨_, by first | rfl | (simp [errW_none, errW_some] <;> rfl) | (simp [*, errW_none, errW_some] <;> rfl), by (with_reducible repeat (first | apply Kd.R_alloc | apply Kd.R_drewN | apply Kd.R_drew)); exact Kd.R_mono (Kd.R_far (p := ⟨gb8, 1, none⟩) (Kd.R_far (p := ⟨gb8, 0, none⟩) (Kd.R_mono HO_3.out (fun k_ hk => (⟨hk, hk.2⟩ : _ ∧ k_ ≠ gb8))) (fun _ hk => hk.2) (.int .u32 ((rd_T33 t1 x10_1).f0))) (fun _ hk => hk.2) (.int .u32 ((rd_T33 t1 x10_1).f1))) (fun _ hk => trivial), by repeat (first | (with_reducible first | exact HB.out | apply below_alloc | apply pw_below_drewN | apply below_drew1 | refine below_set ?_ GE8.out) | exact HB.out)⟩
       ·
        rw [if_neg c19] at H
        have c19b0 : (((rd_T33 t1 x10_1).f1) == 4294967295) = false := beq_eq_false_iff_ne.mpr c19
        have c19b1 : (((rd_T33 t1 x10_1).f1) != 4294967295) = true := bne_iff_ne.mpr c19
        have H' := Aside0.mk H
        clear H
        have p7 : 0 ≤ (x10_1 : Int) := of_decide_eq_true (by first | (with_reducible assumption) | assumption)
        have q7 : x10_1 < (t1.length : Int) := of_decide_eq_true (by first | (with_reducible assumption) | assumption)
        obtain ⟨ad7, e7, hx7_0, hx7_1⟩ := at_T33 (Kd.R_reads' HO_8.out).2.2 x10_1 p7 q7
        cases e7
        replace p7 := eq_true p7
        replace q7 := eq_true q7
        go_wp2_with (first | ((with_reducible refine gate_dst (N := 6) rfl ?_); refine box_event ?hg (N := 6) ?hd (cs := #[.int .u32 0, .int .u32 0]) (t := 33) ?hr ?_; (case hd => rfl); (case hg => rfl); (case hr => first | (go_simp; done) | (go_simp; rfl)); intro gb8 hg w22 hbox hb; have n0_ := Aside0.mk (Kd.R_below (Kd.R_elderB (by (with_reducible repeat (first | apply Kd.R_alloc | apply Kd.R_drewN | apply Kd.R_drew)); exact HO_3.out) gb8 (Nat.le_of_eq hg.symm)) hb); have n1_ := Aside0.mk (Kd.R_below (Kd.R_elderB (by (with_reducible repeat (first | apply Kd.R_alloc | apply Kd.R_drewN | apply Kd.R_drew)); exact HO_8.out) gb8 (Nat.le_of_eq hg.symm)) hb); have n2_ := Aside0.mk (below_step (by repeat (first | (with_reducible first | exact HB.out | apply below_alloc | apply pw_below_drewN | apply below_drew1) | exact HB.out)) hb); have n3_ := Aside0.mk (hbox); have n4_ := Aside0.mk ((by rw [hg]; exact (below_size (by repeat (first | (with_reducible first | exact HB.out | apply below_alloc | apply pw_below_drewN | apply below_drew1) | exact HB.out))) : w.heap.size ≤ gb8)); have n5_ := Aside0.mk ((by rw [hg]; exact (below_size (by repeat (first | (with_reducible first | exact HB.out | apply below_alloc | apply pw_below_drewN | apply below_drew1) | exact HB.out))) : w.heap.size ≤ gb8)); clear HO_3; clear HO_8; clear HB; have HO_3 := n0_; have HO_8 := n1_; have HB := n2_; have BK8 := n3_; have GW8 := n4_; have GE8 := n5_; clear n0_ n1_ n2_ n3_ n4_ n5_; clear hb hbox hg; have hcz23_0 : w22.cell? ⟨gb8, 0, none⟩ = some (.int .u32 0) := (blk_cell BK8.out 0).trans rfl; have hcz23_1 : w22.cell? ⟨gb8, 1, none⟩ = some (.int .u32 0) := (blk_cell BK8.out 1).trans rfl; have hfz23_0 := blk_frozen BK8.out 0; have hfz23_1 := blk_frozen BK8.out 1))
        go_roundg k1
        case measure => have := HK1.out; omega
        case rel => exact ⟨(x3_1), ((((rd_T33 t1 x10_1).f1) + 1) % 4294967296), (wrap64 (x10_1 + 1)), (by first | rfl | (simp; done) | (simp [*]; done)), (by first | rfl | (simp; done) | (simp [*]; done)), H', ⟨by have := HK1.out; omega⟩, ⟨by (with_reducible repeat (first | apply Kd.R_alloc | apply Kd.R_drewN | apply Kd.R_drew)); exact Kd.R_mono (Kd.R_far (p := ⟨gb8, 1, none⟩) (Kd.R_far (p := ⟨gb8, 0, none⟩) (Kd.R_mono HO_3.out (fun k_ hk => (⟨hk, hk.2⟩ : _ ∧ k_ ≠ gb8))) (fun _ hk => hk.2) (.int .u32 ((rd_T33 t1 x10_1).f0))) (fun _ hk => hk.2) (.int .u32 ((rd_T33 t1 x10_1).f1))) (fun _ hk => hk.1.1)⟩, ⟨by (with_reducible repeat (first | apply Kd.R_alloc | apply Kd.R_drewN | apply Kd.R_drew)); exact Kd.R_mono (Kd.R_far (p := ⟨gb8, 1, none⟩) (Kd.R_far (p := ⟨gb8, 0, none⟩) (Kd.R_mono HO_8.out (fun k_ hk => (⟨hk, hk.2⟩ : _ ∧ k_ ≠ gb8))) (fun _ hk => hk.2) (.int .u32 ((rd_T33 t1 x10_1).f0))) (fun _ hk => hk.2) (.int .u32 ((rd_T33 t1 x10_1).f1))) (fun _ hk => hk.1.1)⟩, ⟨by repeat (first | (with_reducible first | exact HB.out | apply below_alloc | apply pw_below_drewN | apply below_drew1 | refine below_set ?_ GE8.out) | exact HB.out)⟩⟩
     ·
      rw [if_neg c7] at H
      exact absurd H (by simp)
    ·
     rw [if_neg c6] at H
     exact absurd H (by simp)
   ·
    rw [if_neg c5] at H
    have c5b0 : decide (x10_1 < (t1.length : Int)) = false := decide_eq_false c5
    clear c5
    by_cases c24 : x3_1.length < 17592186044416
    ·
     rw [if_pos c24] at H
     have LMc24 := Aside0.mk c24
     clear c24
     obtain ⟨y4, hy4⟩ : ∃ y_ : List (S33), y_ = (x3_1 ++ [(⟨x4_1, 4294967295⟩ : S33)]) := ⟨_, rfl⟩
     replace H : (some y4) = some r := by first | (rw [hy4]; with_reducible exact H) | (have H2_ := (Option.bind_some _ _).symm.trans H; rw [hy4]; with_reducible exact H2_) | (have H2_ := (Option.bind_some _ _).symm.trans H; with_reducible exact H2_) | with_reducible exact H | (rw [hy4]; exact H) | exact H
     have Ny4 := Aside0.mk hy4
     clear hy4
     obtain rfl := Option.some.inj H
     go_wp2_with (first | ((with_reducible refine gate_builtin (b := .append) (xs := #[.tmp 34, .tmp 37]) rfl ?_); at_builtin; refine Kd.R_append k33 (w0 := w) w.heap.size rfl (.tmp 34) (.tmp 37) 24 33 (.agg #[(.int .u32 0), (.int .u32 0)]) 8 rfl Try.underlying24 info33 rfl (by decide) (by omega) u3 x3_1 (⟨x4_1, 4294967295⟩ : S33) [.int .u32 x4_1, .int .u32 4294967295] (fun k_ => some k_ ≠ (.slice Ao4 t1.length co4 : Value).ownBlock) (fun _ => False) rfl rfl ?aP (fun _ hk => hk.elim) ?aF ?aO ?aB ?aS ?aL ?_; (case aP => exact k33_mkM _ _ _ (⟨x4_1, 4294967295⟩ : S33)); (case aB => exact (by repeat (first | (with_reducible first | exact HB.out | apply below_alloc | apply pw_below_drewN | apply below_drew1) | exact HB.out))); (case aF => exact (fun k_ hk => Kd.fresh' (Kd.R_lt (by (with_reducible repeat (first | apply Kd.R_alloc | apply Kd.R_drewN | apply Kd.R_drew)); exact HO_8.out)) k_ hk)); (case aO => exact (by (with_reducible repeat (first | apply Kd.R_alloc | apply Kd.R_drewN | apply Kd.R_drew)); exact HO_3.out)); (case aS => exact (below_size (by repeat (first | (with_reducible first | exact HB.out | apply below_alloc | apply pw_below_drewN | apply below_drew1) | exact HB.out)))); (case aL => have := LMc24.out; omega); intro v5 w25 ho hb hg hat; rw [← Ny4.out] at ho; have n0_ := Aside0.mk (Kd.R_after (ok := (fun _ => True)) (by (with_reducible repeat (first | apply Kd.R_alloc | apply Kd.R_drewN | apply Kd.R_drew)); exact Kd.R_mono HO_8.out (fun _ hk => ⟨trivial, hk⟩)) hg hat); have n1_ := Aside0.mk (hb); have n2_ := Aside0.mk (ho); clear HO_8; clear HB; clear HO_3; have HO_8 := n0_; have HB := n1_; have HO6 := n2_; clear n0_ n1_ n2_; clear ho hb hg hat))
     go_ret
     exact ⟨_, by first | rfl | (simp [errW_none, errW_some] <;> rfl) | (simp [*, errW_none, errW_some] <;> rfl), by (with_reducible repeat (first | apply Kd.R_alloc | apply Kd.R_drewN | apply Kd.R_drew)); exact Kd.R_mono HO6.out (fun _ hk => trivial), by repeat (first | (with_reducible first | exact HB.out | apply below_alloc | apply pw_below_drewN | apply below_drew1) | exact HB.out)⟩
    ·
     rw [if_neg c24] at H
     exact absurd H (by simp)

end Go.Proofs.Ytconaifcjnpabaa.P

namespace Go.Proofs.Ytconaifcjnpabaa.P
open Go.RowKit Go.Proofs.YtconaifcjnpabaaW.PrintWords Go.Proofs.YtconaifcjnpabaaW.PrintLast Go.Proofs.YtconaifcjnpabaaW.PrintMore
attribute [local go_sem] max2_int min2_int max_two min_two max_three min_three max_four min_four
set_option linter.unusedVariables false
set_option linter.unusedSimpArgs false

/-! ### dragomanlaw01_alive: function 8 -/
def q10z.f (k : Nat)  : Option (Bool) := (q2z.f k (([(⟨5, 7⟩ : S33), (⟨1, 2⟩ : S33), (⟨3, 4⟩ : S33), (⟨9, 8⟩ : S33)] : List (S33)))).bind fun t4 => ((q1z.f k t4 (([(⟨1, 7⟩ : S33)] : List (S33)))).bind fun t10 => (if t10 = true then ((q9z.f k (([(⟨0, 4⟩ : S33)] : List (S33)))).bind fun t14 => ((q1z.f k t14 (([(⟨5, 4294967295⟩ : S33)] : List (S33)))).bind fun t20 => (if t20 = true then ((q3z.f k (([(([(⟨2, 5⟩ : S33)] : List (S33))), (([(⟨4, 9⟩ : S33)] : List (S33)))] : List (List (S33))))).bind fun t30 => (some ((t30.length : Int) == 5))) else (some false)))) else (some false)))
theorem q10z.mono : ∀ k, LeO (q10z.f k ) (q10z.f (k + 1) ) := by
 intro  k
 unfold q10z.f
 repeat' first
   | (with_reducible exact q1z.mono _ _ _)
   | (with_reducible exact q3z.mono _ _)
   | (with_reducible exact q2z.mono _ _)
   | (with_reducible exact q9z.mono _ _)
   | (with_reducible exact LeO.refl _)
   | (with_reducible exact LeO.none _)
   | (with_reducible refine LeO.ite ?_ ?_)
   | (with_reducible refine LeO.bind ?_ (fun _ => ?_))
   | exact q1z.mono _ _ _
   | exact q3z.mono _ _
   | exact q2z.mono _ _
   | exact q9z.mono _ _
   | exact LeO.none _
   | refine LeO.ite ?_ ?_
   | refine LeO.bind ?_ (fun _ => ?_)
set_option maxHeartbeats 8000000 in
set_option maxRecDepth 100000 in
theorem q10z.calls (k : Nat)  (r : Bool) (w : World) (h : q10z.f k  = some r) :
  Calls Try.prog 8 #[] w fun e w' => e = .returned (.bool r) ∧ Below w.heap.size w w' := by
 have hu33 := Try.underlying33
 have HB := Aside0.mk (Below.refl w.heap.size w)
 have H : ((q2z.f k (([(⟨5, 7⟩ : S33), (⟨1, 2⟩ : S33), (⟨3, 4⟩ : S33), (⟨9, 8⟩ : S33)] : List (S33)))).bind fun t4 => ((q1z.f k t4 (([(⟨1, 7⟩ : S33)] : List (S33)))).bind fun t10 => (if t10 = true then ((q9z.f k (([(⟨0, 4⟩ : S33)] : List (S33)))).bind fun t14 => ((q1z.f k t14 (([(⟨5, 4294967295⟩ : S33)] : List (S33)))).bind fun t20 => (if t20 = true then ((q3z.f k (([(([(⟨2, 5⟩ : S33)] : List (S33))), (([(⟨4, 9⟩ : S33)] : List (S33)))] : List (List (S33))))).bind fun t30 => (some ((t30.length : Int) == 5))) else (some false)))) else (some false)))) = some r := h
 clear h
 obtain ⟨y1, hy1⟩ : ∃ y_ : List (S33), y_ = (([(⟨5, 7⟩ : S33), (⟨1, 2⟩ : S33), (⟨3, 4⟩ : S33), (⟨9, 8⟩ : S33)] : List (S33))) := ⟨_, rfl⟩
 replace H : ((q2z.f k y1).bind fun t4 => ((q1z.f k t4 (([(⟨1, 7⟩ : S33)] : List (S33)))).bind fun t10 => (if t10 = true then ((q9z.f k (([(⟨0, 4⟩ : S33)] : List (S33)))).bind fun t14 => ((q1z.f k t14 (([(⟨5, 4294967295⟩ : S33)] : List (S33)))).bind fun t20 => (if t20 = true then ((q3z.f k (([(([(⟨2, 5⟩ : S33)] : List (S33))), (([(⟨4, 9⟩ : S33)] : List (S33)))] : List (List (S33))))).bind fun t30 => (some ((t30.length : Int) == 5))) else (some false)))) else (some false)))) = some r := by first | (rw [hy1]; with_reducible exact H) | (have H2_ := (Option.bind_some _ _).symm.trans H; rw [hy1]; with_reducible exact H2_) | (have H2_ := (Option.bind_some _ _).symm.trans H; with_reducible exact H2_) | with_reducible exact H | (rw [hy1]; exact H) | exact H
 have Ny1 := Aside0.mk hy1
 clear hy1
 replace H := Option.bind_eq_some_iff.mp H
 obtain ⟨t4, A10, H⟩ := H
 replace H : ((q1z.f k t4 (([(⟨1, 7⟩ : S33)] : List (S33)))).bind fun t10 => (if t10 = true then ((q9z.f k (([(⟨0, 4⟩ : S33)] : List (S33)))).bind fun t14 => ((q1z.f k t14 (([(⟨5, 4294967295⟩ : S33)] : List (S33)))).bind fun t20 => (if t20 = true then ((q3z.f k (([(([(⟨2, 5⟩ : S33)] : List (S33))), (([(⟨4, 9⟩ : S33)] : List (S33)))] : List (List (S33))))).bind fun t30 => (some ((t30.length : Int) == 5))) else (some false)))) else (some false))) = some r := H
 have A1 := Aside0.mk A10
 clear A10
 obtain ⟨y7, hy7⟩ : ∃ y_ : List (S33), y_ = (([(⟨1, 7⟩ : S33)] : List (S33))) := ⟨_, rfl⟩
 replace H : ((q1z.f k t4 y7).bind fun t10 => (if t10 = true then ((q9z.f k (([(⟨0, 4⟩ : S33)] : List (S33)))).bind fun t14 => ((q1z.f k t14 (([(⟨5, 4294967295⟩ : S33)] : List (S33)))).bind fun t20 => (if t20 = true then ((q3z.f k (([(([(⟨2, 5⟩ : S33)] : List (S33))), (([(⟨4, 9⟩ : S33)] : List (S33)))] : List (List (S33))))).bind fun t30 => (some ((t30.length : Int) == 5))) else (some false)))) else (some false))) = some r := by first | (rw [hy7]; with_reducible exact H) | (have H2_ := (Option.bind_some _ _).symm.trans H; rw [hy7]; with_reducible exact H2_) | (have H2_ := (Option.bind_some _ _).symm.trans H; with_reducible exact H2_) | with_reducible exact H | (rw [hy7]; exact H) | exact H
 have Ny7 := Aside0.mk hy7
 clear hy7
 replace H := Option.bind_eq_some_iff.mp H
 obtain ⟨t10, A20, H⟩ := H
 replace H : (if t10 = true then ((q9z.f k (([(⟨0, 4⟩ : S33)] : List (S33)))).bind fun t14 => ((q1z.f k t14 (([(⟨5, 4294967295⟩ : S33)] : List (S33)))).bind fun t20 => (if t20 = true then ((q3z.f k (([(([(⟨2, 5⟩ : S33)] : List (S33))), (([(⟨4, 9⟩ : S33)] : List (S33)))] : List (List (S33))))).bind fun t30 => (some ((t30.length : Int) == 5))) else (some false)))) else (some false)) = some r := H
 have A2 := Aside0.mk A20
 clear A20
 by_cases c3 : t10 = true
 ·
  subst c3
  have H1 : ((q9z.f k (([(⟨0, 4⟩ : S33)] : List (S33)))).bind fun t14 => ((q1z.f k t14 (([(⟨5, 4294967295⟩ : S33)] : List (S33)))).bind fun t20 => (if t20 = true then ((q3z.f k (([(([(⟨2, 5⟩ : S33)] : List (S33))), (([(⟨4, 9⟩ : S33)] : List (S33)))] : List (List (S33))))).bind fun t30 => (some ((t30.length : Int) == 5))) else (some false)))) = some r := by rw [if_pos rfl] at H; exact H
  clear H
  have H := H1
  clear H1
  obtain ⟨y11, hy11⟩ : ∃ y_ : List (S33), y_ = (([(⟨0, 4⟩ : S33)] : List (S33))) := ⟨_, rfl⟩
  replace H : ((q9z.f k y11).bind fun t14 => ((q1z.f k t14 (([(⟨5, 4294967295⟩ : S33)] : List (S33)))).bind fun t20 => (if t20 = true then ((q3z.f k (([(([(⟨2, 5⟩ : S33)] : List (S33))), (([(⟨4, 9⟩ : S33)] : List (S33)))] : List (List (S33))))).bind fun t30 => (some ((t30.length : Int) == 5))) else (some false)))) = some r := by first | (rw [hy11]; with_reducible exact H) | (have H2_ := (Option.bind_some _ _).symm.trans H; rw [hy11]; with_reducible exact H2_) | (have H2_ := (Option.bind_some _ _).symm.trans H; with_reducible exact H2_) | with_reducible exact H | (rw [hy11]; exact H) | exact H
  have Ny11 := Aside0.mk hy11
  clear hy11
  replace H := Option.bind_eq_some_iff.mp H
  obtain ⟨t14, A40, H⟩ := H
  replace H : ((q1z.f k t14 (([(⟨5, 4294967295⟩ : S33)] : List (S33)))).bind fun t20 => (if t20 = true then ((q3z.f k (([(([(⟨2, 5⟩ : S33)] : List (S33))), (([(⟨4, 9⟩ : S33)] : List (S33)))] : List (List (S33))))).bind fun t30 => (some ((t30.length : Int) == 5))) else (some false))) = some r := H
  have A4 := Aside0.mk A40
  clear A40
  obtain ⟨y17, hy17⟩ : ∃ y_ : List (S33), y_ = (([(⟨5, 4294967295⟩ : S33)] : List (S33))) := ⟨_, rfl⟩
  replace H : ((q1z.f k t14 y17).bind fun t20 => (if t20 = true then ((q3z.f k (([(([(⟨2, 5⟩ : S33)] : List (S33))), (([(⟨4, 9⟩ : S33)] : List (S33)))] : List (List (S33))))).bind fun t30 => (some ((t30.length : Int) == 5))) else (some false))) = some r := by first | (rw [hy17]; with_reducible exact H) | (have H2_ := (Option.bind_some _ _).symm.trans H; rw [hy17]; with_reducible exact H2_) | (have H2_ := (Option.bind_some _ _).symm.trans H; with_reducible exact H2_) | with_reducible exact H | (rw [hy17]; exact H) | exact H
  have Ny17 := Aside0.mk hy17
  clear hy17
  replace H := Option.bind_eq_some_iff.mp H
  obtain ⟨t20, A50, H⟩ := H
  replace H : (if t20 = true then ((q3z.f k (([(([(⟨2, 5⟩ : S33)] : List (S33))), (([(⟨4, 9⟩ : S33)] : List (S33)))] : List (List (S33))))).bind fun t30 => (some ((t30.length : Int) == 5))) else (some false)) = some r := H
  have A5 := Aside0.mk A50
  clear A50
  by_cases c6 : t20 = true
  ·
   subst c6
   have H1 : ((q3z.f k (([(([(⟨2, 5⟩ : S33)] : List (S33))), (([(⟨4, 9⟩ : S33)] : List (S33)))] : List (List (S33))))).bind fun t30 => (some ((t30.length : Int) == 5))) = some r := by rw [if_pos rfl] at H; exact H
   clear H
   have H := H1
   clear H1
   obtain ⟨y21, hy21⟩ : ∃ y_ : List (S33), y_ = (([(⟨2, 5⟩ : S33)] : List (S33))) := ⟨_, rfl⟩
   replace H : ((q3z.f k (([y21, (([(⟨4, 9⟩ : S33)] : List (S33)))] : List (List (S33))))).bind fun t30 => (some ((t30.length : Int) == 5))) = some r := by first | (rw [hy21]; with_reducible exact H) | (have H2_ := (Option.bind_some _ _).symm.trans H; rw [hy21]; with_reducible exact H2_) | (have H2_ := (Option.bind_some _ _).symm.trans H; with_reducible exact H2_) | with_reducible exact H | (rw [hy21]; exact H) | exact H
   have Ny21 := Aside0.mk hy21
   clear hy21
   obtain ⟨y24, hy24⟩ : ∃ y_ : List (S33), y_ = (([(⟨4, 9⟩ : S33)] : List (S33))) := ⟨_, rfl⟩
   replace H : ((q3z.f k (([y21, y24] : List (List (S33))))).bind fun t30 => (some ((t30.length : Int) == 5))) = some r := by first | (rw [hy24]; with_reducible exact H) | (have H2_ := (Option.bind_some _ _).symm.trans H; rw [hy24]; with_reducible exact H2_) | (have H2_ := (Option.bind_some _ _).symm.trans H; with_reducible exact H2_) | with_reducible exact H | (rw [hy24]; exact H) | exact H
   have Ny24 := Aside0.mk hy24
   clear hy24
   obtain ⟨y27, hy27⟩ : ∃ y_ : List (List (S33)), y_ = (([y21, y24] : List (List (S33)))) := ⟨_, rfl⟩
   replace H : ((q3z.f k y27).bind fun t30 => (some ((t30.length : Int) == 5))) = some r := by first | (rw [hy27]; with_reducible exact H) | (have H2_ := (Option.bind_some _ _).symm.trans H; rw [hy27]; with_reducible exact H2_) | (have H2_ := (Option.bind_some _ _).symm.trans H; with_reducible exact H2_) | with_reducible exact H | (rw [hy27]; exact H) | exact H
   have Ny27 := Aside0.mk hy27
   clear hy27
   replace H := Option.bind_eq_some_iff.mp H
   obtain ⟨t30, A70, H⟩ := H
   replace H : (some ((t30.length : Int) == 5)) = some r := H
   have A7 := Aside0.mk A70
   clear A70
   obtain rfl := Option.some.inj H
   go_enter Try.func8, Try.ntmps8
   go_wp2_with (first | ((with_reducible refine gate_dst (N := 5) rfl ?_); (try (refine gate_guard (by rfl) ?_; dsimp only)); refine Kd.R_lit k33 _ 33 ?hg (N := 5) ?hd (xs := ([(⟨5, 7⟩ : S33), (⟨1, 2⟩ : S33), (⟨3, 4⟩ : S33), (⟨9, 8⟩ : S33)] : List (S33))) (inner := [.int .u32 5, .int .u32 7, .int .u32 1, .int .u32 2, .int .u32 3, .int .u32 4, .int .u32 9, .int .u32 8]) (ok := fun _ => True) (okp := fun _ => True) ?hr ?hp (fun _ hk => hk) trivial (Below.refl _ _) (Nat.le_refl _) (by simp) ?_; (case hd => rfl); (case hg => rfl); (case hr => first | (go_simp; done) | (go_simp; rfl)); (case hp => exact (Reps.c2 (show Kd.M k33 _ _ _ (⟨5, 7⟩ : S33) [.int .u32 5, .int .u32 7] from (k33_mkM _ _ _ (⟨5, 7⟩ : S33) )) (Reps.c2 (show Kd.M k33 _ _ _ (⟨1, 2⟩ : S33) [.int .u32 1, .int .u32 2] from (k33_mkM _ _ _ (⟨1, 2⟩ : S33) )) (Reps.c2 (show Kd.M k33 _ _ _ (⟨3, 4⟩ : S33) [.int .u32 3, .int .u32 4] from (k33_mkM _ _ _ (⟨3, 4⟩ : S33) )) (Reps.c2 (show Kd.M k33 _ _ _ (⟨9, 8⟩ : S33) [.int .u32 9, .int .u32 8] from (k33_mkM _ _ _ (⟨9, 8⟩ : S33) )) (Reps.none _ _)))))); intro v2 w8 ho9 hb hg_ hnew_; clear hg_ hnew_; (first | rw [← Ny1.out] at ho9 | (simp only [Int.reduceToNat] at ho9; rw [← Ny1.out] at ho9)); have n0_ := Aside0.mk (Kd.R_lower ho9 (below_size (by repeat (first | (with_reducible first | exact HB.out | apply below_alloc | apply pw_below_drewN | apply below_drew1) | exact HB.out)))); have n1_ := Aside0.mk (below_step (by repeat (first | (with_reducible first | exact HB.out | apply below_alloc | apply pw_below_drewN | apply below_drew1) | exact HB.out)) hb); clear HB; have HO3 := n0_; have HB := n1_; clear n0_ n1_; clear hb ho9; obtain ⟨Ao10, co10, eo10⟩ := Kd.R_slice HO3.out; subst eo10) | ((with_reducible refine gate_callee (f := 14) rfl ?_); refine goesL_ (some 6) rfl rfl Try.func14 (by kernel_rfl) rfl #[.slice Ao10 y1.length co10] rfl (by (try simp only [List.map_toArray, List.map_cons, List.map_nil]); first | done | rfl | (simp only [List.length_drop, List.length_take]; rfl)) ?_; (with_reducible refine (q2z.calls k _ _ y1 t4 _ ?side1 ?side2 A1.out).mono ?_); (case side1 => repeat (first | exact (Kd.R_reads' HO3.out).2.2 | (with_reducible refine Kd.C_alloc ?_ _) | (with_reducible refine Kd.C_drewN ?_ _) | (with_reducible refine Kd.C_drew ?_))); (case side2 => exact (Kd.R_reads' HO3.out).2.1); rintro e w11 ⟨v5, rfl, ho0, hb⟩; refine ⟨_, rfl, ?_⟩; have n0_ := Aside0.mk (Kd.R_elder' (by (with_reducible repeat (first | apply Kd.R_alloc | apply Kd.R_drewN | apply Kd.R_drew)); exact HO3.out) (Kd.R_base ho0) hb); have n1_ := Aside0.mk (Kd.R_lower (Kd.R_new' ho0 (Kd.R_lt (by (with_reducible repeat (first | apply Kd.R_alloc | apply Kd.R_drewN | apply Kd.R_drew)); exact HO3.out))) (below_size (by repeat (first | (with_reducible first | exact HB.out | apply below_alloc | apply pw_below_drewN | apply below_drew1) | exact HB.out)))); have n2_ := Aside0.mk (below_step (by repeat (first | (with_reducible first | exact HB.out | apply below_alloc | apply pw_below_drewN | apply below_drew1) | exact HB.out)) hb); clear HO3; clear HB; have HO3 := n0_; have HO6 := n1_; have HB := n2_; clear n0_ n1_ n2_; (try clear hb); (try clear hb2); (try clear hk); (try clear hi); (try clear ho0)) | ((with_reducible refine gate_dst (N := 8) rfl ?_); (try (refine gate_guard (by rfl) ?_; dsimp only)); refine Kd.R_lit k33 _ 33 ?hg (N := 8) ?hd (xs := ([(⟨1, 7⟩ : S33)] : List (S33))) (inner := [.int .u32 1, .int .u32 7]) (ok := fun _ => True) (okp := fun _ => True) ?hr ?hp (fun _ hk => hk) trivial (Below.refl _ _) (Nat.le_refl _) (by simp) ?_; (case hd => rfl); (case hg => rfl); (case hr => first | (go_simp; done) | (go_simp; rfl)); (case hp => exact (Reps.c2 (show Kd.M k33 _ _ _ (⟨1, 7⟩ : S33) [.int .u32 1, .int .u32 7] from (k33_mkM _ _ _ (⟨1, 7⟩ : S33) )) (Reps.none _ _))); intro v8 w12 ho13 hb hg_ hnew_; clear hg_ hnew_; (first | rw [← Ny7.out] at ho13 | (simp only [Int.reduceToNat] at ho13; rw [← Ny7.out] at ho13)); have n0_ := Aside0.mk (Kd.R_elder' (by (with_reducible repeat (first | apply Kd.R_alloc | apply Kd.R_drewN | apply Kd.R_drew)); exact HO3.out) (Kd.R_base ho13) hb); have n1_ := Aside0.mk (Kd.R_elder' (by (with_reducible repeat (first | apply Kd.R_alloc | apply Kd.R_drewN | apply Kd.R_drew)); exact HO6.out) (Kd.R_base ho13) hb); have n2_ := Aside0.mk (Kd.R_lower (Kd.R_new' (Kd.R_new' ho13 (Kd.R_lt (by (with_reducible repeat (first | apply Kd.R_alloc | apply Kd.R_drewN | apply Kd.R_drew)); exact HO3.out))) (Kd.R_lt (by (with_reducible repeat (first | apply Kd.R_alloc | apply Kd.R_drewN | apply Kd.R_drew)); exact HO6.out))) (below_size (by repeat (first | (with_reducible first | exact HB.out | apply below_alloc | apply pw_below_drewN | apply below_drew1) | exact HB.out)))); have n3_ := Aside0.mk (below_step (by repeat (first | (with_reducible first | exact HB.out | apply below_alloc | apply pw_below_drewN | apply below_drew1) | exact HB.out)) hb); clear HO3; clear HO6; clear HB; have HO3 := n0_; have HO6 := n1_; have HO9 := n2_; have HB := n3_; clear n0_ n1_ n2_ n3_; clear hb ho13; obtain ⟨Ao14, co14, eo14⟩ := Kd.R_slice HO6.out; subst eo14; obtain ⟨Ao15, co15, eo15⟩ := Kd.R_slice HO9.out; subst eo15) | ((with_reducible refine gate_callee (f := 10) rfl ?_); refine goesL_ (some 9) rfl rfl Try.func10 (by kernel_rfl) rfl #[.slice Ao14 t4.length co14, .slice Ao15 y7.length co15] rfl (by (try simp only [List.map_toArray, List.map_cons, List.map_nil]); first | done | rfl | (simp only [List.length_drop, List.length_take]; rfl)) ?_; (with_reducible refine (q1z.calls k _ _ t4 _ _ y7 true _ ?side1 ?side2 ?side3 ?side4 A2.out).mono ?_); (case side1 => repeat (first | exact (Kd.R_reads' HO6.out).2.2 | (with_reducible refine Kd.C_alloc ?_ _) | (with_reducible refine Kd.C_drewN ?_ _) | (with_reducible refine Kd.C_drew ?_))); (case side2 => exact (Kd.R_reads' HO6.out).2.1); (case side3 => repeat (first | exact (Kd.R_reads' HO9.out).2.2 | (with_reducible refine Kd.C_alloc ?_ _) | (with_reducible refine Kd.C_drewN ?_ _) | (with_reducible refine Kd.C_drew ?_))); (case side4 => exact (Kd.R_reads' HO9.out).2.1); rintro e w' ⟨rfl, ⟨nd, rfl⟩⟩; refine ⟨_, rfl, ?_⟩) | ((with_reducible refine gate_dst (N := 12) rfl ?_); (try (refine gate_guard (by rfl) ?_; dsimp only)); refine Kd.R_lit k33 _ 33 ?hg (N := 12) ?hd (xs := ([(⟨0, 4⟩ : S33)] : List (S33))) (inner := [.int .u32 0, .int .u32 4]) (ok := fun _ => True) (okp := fun _ => True) ?hr ?hp (fun _ hk => hk) trivial (Below.refl _ _) (Nat.le_refl _) (by simp) ?_; (case hd => rfl); (case hg => rfl); (case hr => first | (go_simp; done) | (go_simp; rfl)); (case hp => exact (Reps.c2 (show Kd.M k33 _ _ _ (⟨0, 4⟩ : S33) [.int .u32 0, .int .u32 4] from (k33_mkM _ _ _ (⟨0, 4⟩ : S33) )) (Reps.none _ _))); intro v12 w16 ho17 hb hg_ hnew_; clear hg_ hnew_; (first | rw [← Ny11.out] at ho17 | (simp only [Int.reduceToNat] at ho17; rw [← Ny11.out] at ho17)); have n0_ := Aside0.mk (Kd.R_elder' (by (with_reducible repeat (first | apply Kd.R_alloc | apply Kd.R_drewN | apply Kd.R_drew)); exact HO3.out) (Kd.R_base ho17) hb); have n1_ := Aside0.mk (Kd.R_elder' (by (with_reducible repeat (first | apply Kd.R_alloc | apply Kd.R_drewN | apply Kd.R_drew)); exact HO6.out) (Kd.R_base ho17) hb); have n2_ := Aside0.mk (Kd.R_elder' (by (with_reducible repeat (first | apply Kd.R_alloc | apply Kd.R_drewN | apply Kd.R_drew)); exact HO9.out) (Kd.R_base ho17) hb); have n3_ := Aside0.mk (Kd.R_lower (Kd.R_new' (Kd.R_new' (Kd.R_new' ho17 (Kd.R_lt (by (with_reducible repeat (first | apply Kd.R_alloc | apply Kd.R_drewN | apply Kd.R_drew)); exact HO3.out))) (Kd.R_lt (by (with_reducible repeat (first | apply Kd.R_alloc | apply Kd.R_drewN | apply Kd.R_drew)); exact HO6.out))) (Kd.R_lt (by (with_reducible repeat (first | apply Kd.R_alloc | apply Kd.R_drewN | apply Kd.R_drew)); exact HO9.out))) (below_size (by repeat (first | (with_reducible first | exact HB.out | apply below_alloc | apply pw_below_drewN | apply below_drew1) | exact HB.out)))); have n4_ := Aside0.mk (below_step (by repeat (first | (with_reducible first | exact HB.out | apply below_alloc | apply pw_below_drewN | apply below_drew1) | exact HB.out)) hb); clear HO3; clear HO6; clear HO9; clear HB; have HO3 := n0_; have HO6 := n1_; have HO9 := n2_; have HO13 := n3_; have HB := n4_; clear n0_ n1_ n2_ n3_ n4_; clear hb ho17; obtain ⟨Ao18, co18, eo18⟩ := Kd.R_slice HO13.out; subst eo18) | (go_at_call 21; (with_reducible refine (q9z.calls k _ _ y11 t14 _ ?side1 ?side2 A4.out).mono ?_); (case side1 => repeat (first | exact (Kd.R_reads' HO13.out).2.2 | (with_reducible refine Kd.C_alloc ?_ _) | (with_reducible refine Kd.C_drewN ?_ _) | (with_reducible refine Kd.C_drew ?_))); (case side2 => exact (Kd.R_reads' HO13.out).2.1); rintro e w19 ⟨v15, rfl, ho0, hb⟩; have n0_ := Aside0.mk (Kd.R_elder' (by (with_reducible repeat (first | apply Kd.R_alloc | apply Kd.R_drewN | apply Kd.R_drew)); exact HO3.out) (Kd.R_base ho0) hb); have n1_ := Aside0.mk (Kd.R_elder' (by (with_reducible repeat (first | apply Kd.R_alloc | apply Kd.R_drewN | apply Kd.R_drew)); exact HO6.out) (Kd.R_base ho0) hb); have n2_ := Aside0.mk (Kd.R_elder' (by (with_reducible repeat (first | apply Kd.R_alloc | apply Kd.R_drewN | apply Kd.R_drew)); exact HO9.out) (Kd.R_base ho0) hb); have n3_ := Aside0.mk (Kd.R_elder' (by (with_reducible repeat (first | apply Kd.R_alloc | apply Kd.R_drewN | apply Kd.R_drew)); exact HO13.out) (Kd.R_base ho0) hb); have n4_ := Aside0.mk (Kd.R_lower (Kd.R_new' (Kd.R_new' (Kd.R_new' (Kd.R_new' ho0 (Kd.R_lt (by (with_reducible repeat (first | apply Kd.R_alloc | apply Kd.R_drewN | apply Kd.R_drew)); exact HO3.out))) (Kd.R_lt (by (with_reducible repeat (first | apply Kd.R_alloc | apply Kd.R_drewN | apply Kd.R_drew)); exact HO6.out))) (Kd.R_lt (by (with_reducible repeat (first | apply Kd.R_alloc | apply Kd.R_drewN | apply Kd.R_drew)); exact HO9.out))) (Kd.R_lt (by (with_reducible repeat (first | apply Kd.R_alloc | apply Kd.R_drewN | apply Kd.R_drew)); exact HO13.out))) (below_size (by repeat (first | (with_reducible first | exact HB.out | apply below_alloc | apply pw_below_drewN | apply below_drew1) | exact HB.out)))); have n5_ := Aside0.mk (below_step (by repeat (first | (with_reducible first | exact HB.out | apply below_alloc | apply pw_below_drewN | apply below_drew1) | exact HB.out)) hb); clear HO3; clear HO6; clear HO9; clear HO13; clear HB; have HO3 := n0_; have HO6 := n1_; have HO9 := n2_; have HO13 := n3_; have HO16 := n4_; have HB := n5_; clear n0_ n1_ n2_ n3_ n4_ n5_; (try clear hb); (try clear hb2); (try clear hk); (try clear hi); (try clear ho0)) | ((with_reducible refine gate_dst (N := 15) rfl ?_); (try (refine gate_guard (by rfl) ?_; dsimp only)); refine Kd.R_lit k33 _ 33 ?hg (N := 15) ?hd (xs := ([(⟨5, 4294967295⟩ : S33)] : List (S33))) (inner := [.int .u32 5, .int .u32 4294967295]) (ok := fun _ => True) (okp := fun _ => True) ?hr ?hp (fun _ hk => hk) trivial (Below.refl _ _) (Nat.le_refl _) (by simp) ?_; (case hd => rfl); (case hg => rfl); (case hr => first | (go_simp; done) | (go_simp; rfl)); (case hp => exact (Reps.c2 (show Kd.M k33 _ _ _ (⟨5, 4294967295⟩ : S33) [.int .u32 5, .int .u32 4294967295] from (k33_mkM _ _ _ (⟨5, 4294967295⟩ : S33) )) (Reps.none _ _))); intro v18 w20 ho21 hb hg_ hnew_; clear hg_ hnew_; (first | rw [← Ny17.out] at ho21 | (simp only [Int.reduceToNat] at ho21; rw [← Ny17.out] at ho21)); have n0_ := Aside0.mk (Kd.R_elder' (by (with_reducible repeat (first | apply Kd.R_alloc | apply Kd.R_drewN | apply Kd.R_drew)); exact HO3.out) (Kd.R_base ho21) hb); have n1_ := Aside0.mk (Kd.R_elder' (by (with_reducible repeat (first | apply Kd.R_alloc | apply Kd.R_drewN | apply Kd.R_drew)); exact HO6.out) (Kd.R_base ho21) hb); have n2_ := Aside0.mk (Kd.R_elder' (by (with_reducible repeat (first | apply Kd.R_alloc | apply Kd.R_drewN | apply Kd.R_drew)); exact HO9.out) (Kd.R_base ho21) hb); have n3_ := Aside0.mk (Kd.R_elder' (by (with_reducible repeat (first | apply Kd.R_alloc | apply Kd.R_drewN | apply Kd.R_drew)); exact HO13.out) (Kd.R_base ho21) hb); have n4_ := Aside0.mk (Kd.R_elder' (by (with_reducible repeat (first | apply Kd.R_alloc | apply Kd.R_drewN | apply Kd.R_drew)); exact HO16.out) (Kd.R_base ho21) hb); have n5_ := Aside0.mk (Kd.R_lower (Kd.R_new' (Kd.R_new' (Kd.R_new' (Kd.R_new' (Kd.R_new' ho21 (Kd.R_lt (by (with_reducible repeat (first | apply Kd.R_alloc | apply Kd.R_drewN | apply Kd.R_drew)); exact HO3.out))) (Kd.R_lt (by (with_reducible repeat (first | apply Kd.R_alloc | apply Kd.R_drewN | apply Kd.R_drew)); exact HO6.out))) (Kd.R_lt (by (with_reducible repeat (first | apply Kd.R_alloc | apply Kd.R_drewN | apply Kd.R_drew)); exact HO9.out))) (Kd.R_lt (by (with_reducible repeat (first | apply Kd.R_alloc | apply Kd.R_drewN | apply Kd.R_drew)); exact HO13.out))) (Kd.R_lt (by (with_reducible repeat (first | apply Kd.R_alloc | apply Kd.R_drewN | apply Kd.R_drew)); exact HO16.out))) (below_size (by repeat (first | (with_reducible first | exact HB.out | apply below_alloc | apply pw_below_drewN | apply below_drew1) | exact HB.out)))); have n6_ := Aside0.mk (below_step (by repeat (first | (with_reducible first | exact HB.out | apply below_alloc | apply pw_below_drewN | apply below_drew1) | exact HB.out)) hb); clear HO3; clear HO6; clear HO9; clear HO13; clear HO16; clear HB; have HO3 := n0_; have HO6 := n1_; have HO9 := n2_; have HO13 := n3_; have HO16 := n4_; have HO19 := n5_; have HB := n6_; clear n0_ n1_ n2_ n3_ n4_ n5_ n6_; clear hb ho21; obtain ⟨Ao22, co22, eo22⟩ := Kd.R_slice HO16.out; subst eo22; obtain ⟨Ao23, co23, eo23⟩ := Kd.R_slice HO19.out; subst eo23) | (go_at_call 10; (with_reducible refine (q1z.calls k _ _ t14 _ _ y17 true _ ?side1 ?side2 ?side3 ?side4 A5.out).mono ?_); (case side1 => repeat (first | exact (Kd.R_reads' HO16.out).2.2 | (with_reducible refine Kd.C_alloc ?_ _) | (with_reducible refine Kd.C_drewN ?_ _) | (with_reducible refine Kd.C_drew ?_))); (case side2 => exact (Kd.R_reads' HO16.out).2.1); (case side3 => repeat (first | exact (Kd.R_reads' HO19.out).2.2 | (with_reducible refine Kd.C_alloc ?_ _) | (with_reducible refine Kd.C_drewN ?_ _) | (with_reducible refine Kd.C_drew ?_))); (case side4 => exact (Kd.R_reads' HO19.out).2.1); rintro e w' ⟨rfl, ⟨nd, rfl⟩⟩) | ((with_reducible refine gate_dst (N := 20) rfl ?_); (try (refine gate_guard (by rfl) ?_; dsimp only)); refine Kd.R_lit k33 _ 33 ?hg (N := 20) ?hd (xs := ([(⟨2, 5⟩ : S33)] : List (S33))) (inner := [.int .u32 2, .int .u32 5]) (ok := fun _ => True) (okp := fun _ => True) ?hr ?hp (fun _ hk => hk) trivial (Below.refl _ _) (Nat.le_refl _) (by simp) ?_; (case hd => rfl); (case hg => rfl); (case hr => first | (go_simp; done) | (go_simp; rfl)); (case hp => exact (Reps.c2 (show Kd.M k33 _ _ _ (⟨2, 5⟩ : S33) [.int .u32 2, .int .u32 5] from (k33_mkM _ _ _ (⟨2, 5⟩ : S33) )) (Reps.none _ _))); intro v22 w24 ho25 hb hg_ hnew_; clear hg_ hnew_; (first | rw [← Ny21.out] at ho25 | (simp only [Int.reduceToNat] at ho25; rw [← Ny21.out] at ho25)); have n0_ := Aside0.mk (Kd.R_elder' (by (with_reducible repeat (first | apply Kd.R_alloc | apply Kd.R_drewN | apply Kd.R_drew)); exact HO3.out) (Kd.R_base ho25) hb); have n1_ := Aside0.mk (Kd.R_elder' (by (with_reducible repeat (first | apply Kd.R_alloc | apply Kd.R_drewN | apply Kd.R_drew)); exact HO6.out) (Kd.R_base ho25) hb); have n2_ := Aside0.mk (Kd.R_elder' (by (with_reducible repeat (first | apply Kd.R_alloc | apply Kd.R_drewN | apply Kd.R_drew)); exact HO9.out) (Kd.R_base ho25) hb); have n3_ := Aside0.mk (Kd.R_elder' (by (with_reducible repeat (first | apply Kd.R_alloc | apply Kd.R_drewN | apply Kd.R_drew)); exact HO13.out) (Kd.R_base ho25) hb); have n4_ := Aside0.mk (Kd.R_elder' (by (with_reducible repeat (first | apply Kd.R_alloc | apply Kd.R_drewN | apply Kd.R_drew)); exact HO16.out) (Kd.R_base ho25) hb); have n5_ := Aside0.mk (Kd.R_elder' (by (with_reducible repeat (first | apply Kd.R_alloc | apply Kd.R_drewN | apply Kd.R_drew)); exact HO19.out) (Kd.R_base ho25) hb); have n6_ := Aside0.mk (Kd.R_lower (Kd.R_new' (Kd.R_new' (Kd.R_new' (Kd.R_new' (Kd.R_new' (Kd.R_new' ho25 (Kd.R_lt (by (with_reducible repeat (first | apply Kd.R_alloc | apply Kd.R_drewN | apply Kd.R_drew)); exact HO3.out))) (Kd.R_lt (by (with_reducible repeat (first | apply Kd.R_alloc | apply Kd.R_drewN | apply Kd.R_drew)); exact HO6.out))) (Kd.R_lt (by (with_reducible repeat (first | apply Kd.R_alloc | apply Kd.R_drewN | apply Kd.R_drew)); exact HO9.out))) (Kd.R_lt (by (with_reducible repeat (first | apply Kd.R_alloc | apply Kd.R_drewN | apply Kd.R_drew)); exact HO13.out))) (Kd.R_lt (by (with_reducible repeat (first | apply Kd.R_alloc | apply Kd.R_drewN | apply Kd.R_drew)); exact HO16.out))) (Kd.R_lt (by (with_reducible repeat (first | apply Kd.R_alloc | apply Kd.R_drewN | apply Kd.R_drew)); exact HO19.out))) (below_size (by repeat (first | (with_reducible first | exact HB.out | apply below_alloc | apply pw_below_drewN | apply below_drew1) | exact HB.out)))); have n7_ := Aside0.mk (below_step (by repeat (first | (with_reducible first | exact HB.out | apply below_alloc | apply pw_below_drewN | apply below_drew1) | exact HB.out)) hb); clear HO3; clear HO6; clear HO9; clear HO13; clear HO16; clear HO19; clear HB; have HO3 := n0_; have HO6 := n1_; have HO9 := n2_; have HO13 := n3_; have HO16 := n4_; have HO19 := n5_; have HO23 := n6_; have HB := n7_; clear n0_ n1_ n2_ n3_ n4_ n5_ n6_ n7_; clear hb ho25) | ((with_reducible refine gate_dst (N := 22) rfl ?_); (try (refine gate_guard (by rfl) ?_; dsimp only)); refine Kd.R_lit k33 _ 33 ?hg (N := 22) ?hd (xs := ([(⟨4, 9⟩ : S33)] : List (S33))) (inner := [.int .u32 4, .int .u32 9]) (ok := fun _ => True) (okp := fun _ => True) ?hr ?hp (fun _ hk => hk) trivial (Below.refl _ _) (Nat.le_refl _) (by simp) ?_; (case hd => rfl); (case hg => rfl); (case hr => first | (go_simp; done) | (go_simp; rfl)); (case hp => exact (Reps.c2 (show Kd.M k33 _ _ _ (⟨4, 9⟩ : S33) [.int .u32 4, .int .u32 9] from (k33_mkM _ _ _ (⟨4, 9⟩ : S33) )) (Reps.none _ _))); intro v25 w26 ho27 hb hg_ hnew_; clear hg_ hnew_; (first | rw [← Ny24.out] at ho27 | (simp only [Int.reduceToNat] at ho27; rw [← Ny24.out] at ho27)); have n0_ := Aside0.mk (Kd.R_elder' (by (with_reducible repeat (first | apply Kd.R_alloc | apply Kd.R_drewN | apply Kd.R_drew)); exact HO3.out) (Kd.R_base ho27) hb); have n1_ := Aside0.mk (Kd.R_elder' (by (with_reducible repeat (first | apply Kd.R_alloc | apply Kd.R_drewN | apply Kd.R_drew)); exact HO6.out) (Kd.R_base ho27) hb); have n2_ := Aside0.mk (Kd.R_elder' (by (with_reducible repeat (first | apply Kd.R_alloc | apply Kd.R_drewN | apply Kd.R_drew)); exact HO9.out) (Kd.R_base ho27) hb); have n3_ := Aside0.mk (Kd.R_elder' (by (with_reducible repeat (first | apply Kd.R_alloc | apply Kd.R_drewN | apply Kd.R_drew)); exact HO13.out) (Kd.R_base ho27) hb); have n4_ := Aside0.mk (Kd.R_elder' (by (with_reducible repeat (first | apply Kd.R_alloc | apply Kd.R_drewN | apply Kd.R_drew)); exact HO16.out) (Kd.R_base ho27) hb); have n5_ := Aside0.mk (Kd.R_elder' (by (with_reducible repeat (first | apply Kd.R_alloc | apply Kd.R_drewN | apply Kd.R_drew)); exact HO19.out) (Kd.R_base ho27) hb); have n6_ := Aside0.mk (Kd.R_elder' (by (with_reducible repeat (first | apply Kd.R_alloc | apply Kd.R_drewN | apply Kd.R_drew)); exact HO23.out) (Kd.R_base ho27) hb); have n7_ := Aside0.mk (Kd.R_lower (Kd.R_new' (Kd.R_new' (Kd.R_new' (Kd.R_new' (Kd.R_new' (Kd.R_new' (Kd.R_new' ho27 (Kd.R_lt (by (with_reducible repeat (first | apply Kd.R_alloc | apply Kd.R_drewN | apply Kd.R_drew)); exact HO3.out))) (Kd.R_lt (by (with_reducible repeat (first | apply Kd.R_alloc | apply Kd.R_drewN | apply Kd.R_drew)); exact HO6.out))) (Kd.R_lt (by (with_reducible repeat (first | apply Kd.R_alloc | apply Kd.R_drewN | apply Kd.R_drew)); exact HO9.out))) (Kd.R_lt (by (with_reducible repeat (first | apply Kd.R_alloc | apply Kd.R_drewN | apply Kd.R_drew)); exact HO13.out))) (Kd.R_lt (by (with_reducible repeat (first | apply Kd.R_alloc | apply Kd.R_drewN | apply Kd.R_drew)); exact HO16.out))) (Kd.R_lt (by (with_reducible repeat (first | apply Kd.R_alloc | apply Kd.R_drewN | apply Kd.R_drew)); exact HO19.out))) (Kd.R_lt (by (with_reducible repeat (first | apply Kd.R_alloc | apply Kd.R_drewN | apply Kd.R_drew)); exact HO23.out))) (below_size (by repeat (first | (with_reducible first | exact HB.out | apply below_alloc | apply pw_below_drewN | apply below_drew1) | exact HB.out)))); have n8_ := Aside0.mk (below_step (by repeat (first | (with_reducible first | exact HB.out | apply below_alloc | apply pw_below_drewN | apply below_drew1) | exact HB.out)) hb); clear HO3; clear HO6; clear HO9; clear HO13; clear HO16; clear HO19; clear HO23; clear HB; have HO3 := n0_; have HO6 := n1_; have HO9 := n2_; have HO13 := n3_; have HO16 := n4_; have HO19 := n5_; have HO23 := n6_; have HO26 := n7_; have HB := n8_; clear n0_ n1_ n2_ n3_ n4_ n5_ n6_ n7_ n8_; clear hb ho27; obtain ⟨Ao28, co28, eo28⟩ := Kd.R_slice HO23.out; subst eo28; obtain ⟨Ao29, co29, eo29⟩ := Kd.R_slice HO26.out; subst eo29) | ((with_reducible refine gate_dst (N := 23) rfl ?_); (try (refine gate_guard (by rfl) ?_; dsimp only)); refine Kd.N_lit (Kd.slice 33 k33) _ 24 ?hg (N' := 23) ?hd (xs := ([y21, y24] : List (List (S33)))) (inner := [.slice Ao28 y21.length co28, .slice Ao29 y24.length co29]) (ok := (fun k_ => some k_ ≠ (.slice Ao10 y1.length co10 : Value).ownBlock ∧ some k_ ≠ (.slice Ao14 t4.length co14 : Value).ownBlock ∧ some k_ ≠ (.slice Ao15 y7.length co15 : Value).ownBlock ∧ some k_ ≠ (.slice Ao18 y11.length co18 : Value).ownBlock ∧ some k_ ≠ (.slice Ao22 t14.length co22 : Value).ownBlock ∧ some k_ ≠ (.slice Ao23 y17.length co23 : Value).ownBlock)) (okp := (fun k_ => some k_ ≠ (.slice Ao10 y1.length co10 : Value).ownBlock ∧ some k_ ≠ (.slice Ao14 t4.length co14 : Value).ownBlock ∧ some k_ ≠ (.slice Ao15 y7.length co15 : Value).ownBlock ∧ some k_ ≠ (.slice Ao18 y11.length co18 : Value).ownBlock ∧ some k_ ≠ (.slice Ao22 t14.length co22 : Value).ownBlock ∧ some k_ ≠ (.slice Ao23 y17.length co23 : Value).ownBlock)) ?hr ?hp (fun _ hk => hk) ((show ∀ k_, w26.heap.size ≤ k_ → (fun k_ => some k_ ≠ (.slice Ao10 y1.length co10 : Value).ownBlock ∧ some k_ ≠ (.slice Ao14 t4.length co14 : Value).ownBlock ∧ some k_ ≠ (.slice Ao15 y7.length co15 : Value).ownBlock ∧ some k_ ≠ (.slice Ao18 y11.length co18 : Value).ownBlock ∧ some k_ ≠ (.slice Ao22 t14.length co22 : Value).ownBlock ∧ some k_ ≠ (.slice Ao23 y17.length co23 : Value).ownBlock) k_ from fun k_ hk => ⟨Kd.fresh' (Kd.R_lt (by (with_reducible repeat (first | apply Kd.R_alloc | apply Kd.R_drewN | apply Kd.R_drew)); exact HO3.out)) k_ hk, Kd.fresh' (Kd.R_lt (by (with_reducible repeat (first | apply Kd.R_alloc | apply Kd.R_drewN | apply Kd.R_drew)); exact HO6.out)) k_ hk, Kd.fresh' (Kd.R_lt (by (with_reducible repeat (first | apply Kd.R_alloc | apply Kd.R_drewN | apply Kd.R_drew)); exact HO9.out)) k_ hk, Kd.fresh' (Kd.R_lt (by (with_reducible repeat (first | apply Kd.R_alloc | apply Kd.R_drewN | apply Kd.R_drew)); exact HO13.out)) k_ hk, Kd.fresh' (Kd.R_lt (by (with_reducible repeat (first | apply Kd.R_alloc | apply Kd.R_drewN | apply Kd.R_drew)); exact HO16.out)) k_ hk, Kd.fresh' (Kd.R_lt (by (with_reducible repeat (first | apply Kd.R_alloc | apply Kd.R_drewN | apply Kd.R_drew)); exact HO19.out)) k_ hk⟩) _ (Nat.le_refl _)) (Below.refl _ _) (Nat.le_refl _) (by simp) ?_; (case hd => rfl); (case hg => rfl); (case hr => first | (go_simp; done) | (go_simp; rfl)); (case hp => exact (Reps.one (show Kd.FK (Kd.slice 33 k33) _ _ y21 [.slice Ao28 y21.length co28] from (Kd.FK_slice_mk (Kd.R_reads' (Kd.R_mono (ok' := (fun k_ => some k_ ≠ (.slice Ao10 y1.length co10 : Value).ownBlock ∧ some k_ ≠ (.slice Ao14 t4.length co14 : Value).ownBlock ∧ some k_ ≠ (.slice Ao15 y7.length co15 : Value).ownBlock ∧ some k_ ≠ (.slice Ao18 y11.length co18 : Value).ownBlock ∧ some k_ ≠ (.slice Ao22 t14.length co22 : Value).ownBlock ∧ some k_ ≠ (.slice Ao23 y17.length co23 : Value).ownBlock)) (HO23.out) (fun k_ hk => ⟨hk.1.1.1.1.1.1.2, ⟨hk.1.1.1.1.1.2, ⟨hk.1.1.1.1.2, ⟨hk.1.1.1.2, ⟨hk.1.1.2, hk.1.2⟩⟩⟩⟩⟩))).2.1 (Kd.R_F (Kd.R_mono (ok' := (fun k_ => some k_ ≠ (.slice Ao10 y1.length co10 : Value).ownBlock ∧ some k_ ≠ (.slice Ao14 t4.length co14 : Value).ownBlock ∧ some k_ ≠ (.slice Ao15 y7.length co15 : Value).ownBlock ∧ some k_ ≠ (.slice Ao18 y11.length co18 : Value).ownBlock ∧ some k_ ≠ (.slice Ao22 t14.length co22 : Value).ownBlock ∧ some k_ ≠ (.slice Ao23 y17.length co23 : Value).ownBlock)) (HO23.out) (fun k_ hk => ⟨hk.1.1.1.1.1.1.2, ⟨hk.1.1.1.1.1.2, ⟨hk.1.1.1.1.2, ⟨hk.1.1.1.2, ⟨hk.1.1.2, hk.1.2⟩⟩⟩⟩⟩))))) (Reps.one (show Kd.FK (Kd.slice 33 k33) _ _ y24 [.slice Ao29 y24.length co29] from (Kd.FK_slice_mk (Kd.R_reads' (Kd.R_mono (ok' := (fun k_ => some k_ ≠ (.slice Ao10 y1.length co10 : Value).ownBlock ∧ some k_ ≠ (.slice Ao14 t4.length co14 : Value).ownBlock ∧ some k_ ≠ (.slice Ao15 y7.length co15 : Value).ownBlock ∧ some k_ ≠ (.slice Ao18 y11.length co18 : Value).ownBlock ∧ some k_ ≠ (.slice Ao22 t14.length co22 : Value).ownBlock ∧ some k_ ≠ (.slice Ao23 y17.length co23 : Value).ownBlock)) (HO26.out) (fun k_ hk => ⟨hk.1.1.1.1.1.1.2, ⟨hk.1.1.1.1.1.2, ⟨hk.1.1.1.1.2, ⟨hk.1.1.1.2, ⟨hk.1.1.2, hk.1.2⟩⟩⟩⟩⟩))).2.1 (Kd.R_F (Kd.R_mono (ok' := (fun k_ => some k_ ≠ (.slice Ao10 y1.length co10 : Value).ownBlock ∧ some k_ ≠ (.slice Ao14 t4.length co14 : Value).ownBlock ∧ some k_ ≠ (.slice Ao15 y7.length co15 : Value).ownBlock ∧ some k_ ≠ (.slice Ao18 y11.length co18 : Value).ownBlock ∧ some k_ ≠ (.slice Ao22 t14.length co22 : Value).ownBlock ∧ some k_ ≠ (.slice Ao23 y17.length co23 : Value).ownBlock)) (HO26.out) (fun k_ hk => ⟨hk.1.1.1.1.1.1.2, ⟨hk.1.1.1.1.1.2, ⟨hk.1.1.1.1.2, ⟨hk.1.1.1.2, ⟨hk.1.1.2, hk.1.2⟩⟩⟩⟩⟩))))) (Reps.none _ _)))); intro v28 w30 ho31 hb hg_ hnew_; clear hg_ hnew_; (first | rw [← Ny27.out] at ho31 | (simp only [Int.reduceToNat] at ho31; rw [← Ny27.out] at ho31)); have n0_ := Aside0.mk (Kd.R_below (by (with_reducible repeat (first | apply Kd.R_alloc | apply Kd.R_drewN | apply Kd.R_drew)); exact HO3.out) hb); have n1_ := Aside0.mk (Kd.R_below (by (with_reducible repeat (first | apply Kd.R_alloc | apply Kd.R_drewN | apply Kd.R_drew)); exact HO6.out) hb); have n2_ := Aside0.mk (Kd.R_below (by (with_reducible repeat (first | apply Kd.R_alloc | apply Kd.R_drewN | apply Kd.R_drew)); exact HO9.out) hb); have n3_ := Aside0.mk (Kd.R_below (by (with_reducible repeat (first | apply Kd.R_alloc | apply Kd.R_drewN | apply Kd.R_drew)); exact HO13.out) hb); have n4_ := Aside0.mk (Kd.R_below (by (with_reducible repeat (first | apply Kd.R_alloc | apply Kd.R_drewN | apply Kd.R_drew)); exact HO16.out) hb); have n5_ := Aside0.mk (Kd.R_below (by (with_reducible repeat (first | apply Kd.R_alloc | apply Kd.R_drewN | apply Kd.R_drew)); exact HO19.out) hb); have n6_ := Aside0.mk (Kd.N_lower ho31 (below_size (by repeat (first | (with_reducible first | exact HB.out | apply below_alloc | apply pw_below_drewN | apply below_drew1) | exact HB.out)))); have n7_ := Aside0.mk (below_step (by repeat (first | (with_reducible first | exact HB.out | apply below_alloc | apply pw_below_drewN | apply below_drew1) | exact HB.out)) hb); clear HO3; clear HO6; clear HO9; clear HO13; clear HO16; clear HO19; clear HB; clear HO23; clear HO26; have HO3 := n0_; have HO6 := n1_; have HO9 := n2_; have HO13 := n3_; have HO16 := n4_; have HO19 := n5_; have HO29 := n6_; have HB := n7_; clear n0_ n1_ n2_ n3_ n4_ n5_ n6_ n7_; clear hb ho31; obtain ⟨Ao32, co32, eo32⟩ := Kd.N_slice HO29.out; subst eo32) | (go_at_call 11; (with_reducible refine (q3z.calls k _ _ y27 t30 _ ?side1 ?side2 A7.out).mono ?_); (case side1 => repeat (first | exact (Kd.N_reads' HO29.out).2.2 | (with_reducible refine Kd.C_alloc ?_ _) | (with_reducible refine Kd.C_drewN ?_ _) | (with_reducible refine Kd.C_drew ?_))); (case side2 => exact (Kd.N_reads' HO29.out).2.1); rintro e w33 ⟨v31, rfl, ho0, hb⟩; have n0_ := Aside0.mk (Kd.R_elder' (by (with_reducible repeat (first | apply Kd.R_alloc | apply Kd.R_drewN | apply Kd.R_drew)); exact HO3.out) (Kd.R_base ho0) hb); have n1_ := Aside0.mk (Kd.R_elder' (by (with_reducible repeat (first | apply Kd.R_alloc | apply Kd.R_drewN | apply Kd.R_drew)); exact HO6.out) (Kd.R_base ho0) hb); have n2_ := Aside0.mk (Kd.R_elder' (by (with_reducible repeat (first | apply Kd.R_alloc | apply Kd.R_drewN | apply Kd.R_drew)); exact HO9.out) (Kd.R_base ho0) hb); have n3_ := Aside0.mk (Kd.R_elder' (by (with_reducible repeat (first | apply Kd.R_alloc | apply Kd.R_drewN | apply Kd.R_drew)); exact HO13.out) (Kd.R_base ho0) hb); have n4_ := Aside0.mk (Kd.R_elder' (by (with_reducible repeat (first | apply Kd.R_alloc | apply Kd.R_drewN | apply Kd.R_drew)); exact HO16.out) (Kd.R_base ho0) hb); have n5_ := Aside0.mk (Kd.R_elder' (by (with_reducible repeat (first | apply Kd.R_alloc | apply Kd.R_drewN | apply Kd.R_drew)); exact HO19.out) (Kd.R_base ho0) hb); have n6_ := Aside0.mk (Kd.N_elder' (by (with_reducible repeat (first | apply Kd.N_alloc | apply Kd.N_drewN | apply Kd.N_drew)); exact HO29.out) (Kd.R_base ho0) hb); have n7_ := Aside0.mk (Kd.R_lower (Kd.R_new' (Kd.R_new' (Kd.R_new' (Kd.R_new' (Kd.R_new' (Kd.R_new' ho0 (Kd.R_lt (by (with_reducible repeat (first | apply Kd.R_alloc | apply Kd.R_drewN | apply Kd.R_drew)); exact HO3.out))) (Kd.R_lt (by (with_reducible repeat (first | apply Kd.R_alloc | apply Kd.R_drewN | apply Kd.R_drew)); exact HO6.out))) (Kd.R_lt (by (with_reducible repeat (first | apply Kd.R_alloc | apply Kd.R_drewN | apply Kd.R_drew)); exact HO9.out))) (Kd.R_lt (by (with_reducible repeat (first | apply Kd.R_alloc | apply Kd.R_drewN | apply Kd.R_drew)); exact HO13.out))) (Kd.R_lt (by (with_reducible repeat (first | apply Kd.R_alloc | apply Kd.R_drewN | apply Kd.R_drew)); exact HO16.out))) (Kd.R_lt (by (with_reducible repeat (first | apply Kd.R_alloc | apply Kd.R_drewN | apply Kd.R_drew)); exact HO19.out))) (below_size (by repeat (first | (with_reducible first | exact HB.out | apply below_alloc | apply pw_below_drewN | apply below_drew1) | exact HB.out)))); have n8_ := Aside0.mk (below_step (by repeat (first | (with_reducible first | exact HB.out | apply below_alloc | apply pw_below_drewN | apply below_drew1) | exact HB.out)) hb); clear HO3; clear HO6; clear HO9; clear HO13; clear HO16; clear HO19; clear HO29; clear HB; have HO3 := n0_; have HO6 := n1_; have HO9 := n2_; have HO13 := n3_; have HO16 := n4_; have HO19 := n5_; have HO29 := n6_; have HO32 := n7_; have HB := n8_; clear n0_ n1_ n2_ n3_ n4_ n5_ n6_ n7_ n8_; (try clear hb); (try clear hb2); (try clear hk); (try clear hi); (try clear ho0); obtain ⟨Ao34, co34, eo34⟩ := Kd.R_slice HO32.out; subst eo34))
   go_ret
   exact ⟨by first | rfl | (simp [errW_none, errW_some] <;> rfl) | (simp [*, errW_none, errW_some] <;> rfl), by repeat (first | (with_reducible first | exact HB.out | apply below_alloc | apply pw_below_drewN | apply below_drew1) | exact HB.out)⟩
  ·
   replace c6 := Bool.eq_false_iff.mpr c6
   subst c6
   have H1 : (some false) = some r := by rw [if_neg (show ¬ (false = true) by decide)] at H; exact H
   clear H
   have H := H1
   clear H1
   obtain rfl := Option.some.inj H
   go_enter Try.func8, Try.ntmps8
   go_wp2_with (first | ((with_reducible refine gate_dst (N := 5) rfl ?_); (try (refine gate_guard (by rfl) ?_; dsimp only)); refine Kd.R_lit k33 _ 33 ?hg (N := 5) ?hd (xs := ([(⟨5, 7⟩ : S33), (⟨1, 2⟩ : S33), (⟨3, 4⟩ : S33), (⟨9, 8⟩ : S33)] : List (S33))) (inner := [.int .u32 5, .int .u32 7, .int .u32 1, .int .u32 2, .int .u32 3, .int .u32 4, .int .u32 9, .int .u32 8]) (ok := fun _ => True) (okp := fun _ => True) ?hr ?hp (fun _ hk => hk) trivial (Below.refl _ _) (Nat.le_refl _) (by simp) ?_; (case hd => rfl); (case hg => rfl); (case hr => first | (go_simp; done) | (go_simp; rfl)); (case hp => exact (Reps.c2 (show Kd.M k33 _ _ _ (⟨5, 7⟩ : S33) [.int .u32 5, .int .u32 7] from (k33_mkM _ _ _ (⟨5, 7⟩ : S33) )) (Reps.c2 (show Kd.M k33 _ _ _ (⟨1, 2⟩ : S33) [.int .u32 1, .int .u32 2] from (k33_mkM _ _ _ (⟨1, 2⟩ : S33) )) (Reps.c2 (show Kd.M k33 _ _ _ (⟨3, 4⟩ : S33) [.int .u32 3, .int .u32 4] from (k33_mkM _ _ _ (⟨3, 4⟩ : S33) )) (Reps.c2 (show Kd.M k33 _ _ _ (⟨9, 8⟩ : S33) [.int .u32 9, .int .u32 8] from (k33_mkM _ _ _ (⟨9, 8⟩ : S33) )) (Reps.none _ _)))))); intro v2 w35 ho36 hb hg_ hnew_; clear hg_ hnew_; (first | rw [← Ny1.out] at ho36 | (simp only [Int.reduceToNat] at ho36; rw [← Ny1.out] at ho36)); have n0_ := Aside0.mk (Kd.R_lower ho36 (below_size (by repeat (first | (with_reducible first | exact HB.out | apply below_alloc | apply pw_below_drewN | apply below_drew1) | exact HB.out)))); have n1_ := Aside0.mk (below_step (by repeat (first | (with_reducible first | exact HB.out | apply below_alloc | apply pw_below_drewN | apply below_drew1) | exact HB.out)) hb); clear HB; have HO3 := n0_; have HB := n1_; clear n0_ n1_; clear hb ho36; obtain ⟨Ao37, co37, eo37⟩ := Kd.R_slice HO3.out; subst eo37) | ((with_reducible refine gate_callee (f := 14) rfl ?_); refine goesL_ (some 6) rfl rfl Try.func14 (by kernel_rfl) rfl #[.slice Ao37 y1.length co37] rfl (by (try simp only [List.map_toArray, List.map_cons, List.map_nil]); first | done | rfl | (simp only [List.length_drop, List.length_take]; rfl)) ?_; (with_reducible refine (q2z.calls k _ _ y1 t4 _ ?side1 ?side2 A1.out).mono ?_); (case side1 => repeat (first | exact (Kd.R_reads' HO3.out).2.2 | (with_reducible refine Kd.C_alloc ?_ _) | (with_reducible refine Kd.C_drewN ?_ _) | (with_reducible refine Kd.C_drew ?_))); (case side2 => exact (Kd.R_reads' HO3.out).2.1); rintro e w38 ⟨v5, rfl, ho0, hb⟩; refine ⟨_, rfl, ?_⟩; have n0_ := Aside0.mk (Kd.R_elder' (by (with_reducible repeat (first | apply Kd.R_alloc | apply Kd.R_drewN | apply Kd.R_drew)); exact HO3.out) (Kd.R_base ho0) hb); have n1_ := Aside0.mk (Kd.R_lower (Kd.R_new' ho0 (Kd.R_lt (by (with_reducible repeat (first | apply Kd.R_alloc | apply Kd.R_drewN | apply Kd.R_drew)); exact HO3.out))) (below_size (by repeat (first | (with_reducible first | exact HB.out | apply below_alloc | apply pw_below_drewN | apply below_drew1) | exact HB.out)))); have n2_ := Aside0.mk (below_step (by repeat (first | (with_reducible first | exact HB.out | apply below_alloc | apply pw_below_drewN | apply below_drew1) | exact HB.out)) hb); clear HO3; clear HB; have HO3 := n0_; have HO6 := n1_; have HB := n2_; clear n0_ n1_ n2_; (try clear hb); (try clear hb2); (try clear hk); (try clear hi); (try clear ho0)) | ((with_reducible refine gate_dst (N := 8) rfl ?_); (try (refine gate_guard (by rfl) ?_; dsimp only)); refine Kd.R_lit k33 _ 33 ?hg (N := 8) ?hd (xs := ([(⟨1, 7⟩ : S33)] : List (S33))) (inner := [.int .u32 1, .int .u32 7]) (ok := fun _ => True) (okp := fun _ => True) ?hr ?hp (fun _ hk => hk) trivial (Below.refl _ _) (Nat.le_refl _) (by simp) ?_; (case hd => rfl); (case hg => rfl); (case hr => first | (go_simp; done) | (go_simp; rfl)); (case hp => exact (Reps.c2 (show Kd.M k33 _ _ _ (⟨1, 7⟩ : S33) [.int .u32 1, .int .u32 7] from (k33_mkM _ _ _ (⟨1, 7⟩ : S33) )) (Reps.none _ _))); intro v8 w39 ho40 hb hg_ hnew_; clear hg_ hnew_; (first | rw [← Ny7.out] at ho40 | (simp only [Int.reduceToNat] at ho40; rw [← Ny7.out] at ho40)); have n0_ := Aside0.mk (Kd.R_elder' (by (with_reducible repeat (first | apply Kd.R_alloc | apply Kd.R_drewN | apply Kd.R_drew)); exact HO3.out) (Kd.R_base ho40) hb); have n1_ := Aside0.mk (Kd.R_elder' (by (with_reducible repeat (first | apply Kd.R_alloc | apply Kd.R_drewN | apply Kd.R_drew)); exact HO6.out) (Kd.R_base ho40) hb); have n2_ := Aside0.mk (Kd.R_lower (Kd.R_new' (Kd.R_new' ho40 (Kd.R_lt (by (with_reducible repeat (first | apply Kd.R_alloc | apply Kd.R_drewN | apply Kd.R_drew)); exact HO3.out))) (Kd.R_lt (by (with_reducible repeat (first | apply Kd.R_alloc | apply Kd.R_drewN | apply Kd.R_drew)); exact HO6.out))) (below_size (by repeat (first | (with_reducible first | exact HB.out | apply below_alloc | apply pw_below_drewN | apply below_drew1) | exact HB.out)))); have n3_ := Aside0.mk (below_step (by repeat (first | (with_reducible first | exact HB.out | apply below_alloc | apply pw_below_drewN | apply below_drew1) | exact HB.out)) hb); clear HO3; clear HO6; clear HB; have HO3 := n0_; have HO6 := n1_; have HO9 := n2_; have HB := n3_; clear n0_ n1_ n2_ n3_; clear hb ho40; obtain ⟨Ao41, co41, eo41⟩ := Kd.R_slice HO6.out; subst eo41; obtain ⟨Ao42, co42, eo42⟩ := Kd.R_slice HO9.out; subst eo42) | ((with_reducible refine gate_callee (f := 10) rfl ?_); refine goesL_ (some 9) rfl rfl Try.func10 (by kernel_rfl) rfl #[.slice Ao41 t4.length co41, .slice Ao42 y7.length co42] rfl (by (try simp only [List.map_toArray, List.map_cons, List.map_nil]); first | done | rfl | (simp only [List.length_drop, List.length_take]; rfl)) ?_; (with_reducible refine (q1z.calls k _ _ t4 _ _ y7 true _ ?side1 ?side2 ?side3 ?side4 A2.out).mono ?_); (case side1 => repeat (first | exact (Kd.R_reads' HO6.out).2.2 | (with_reducible refine Kd.C_alloc ?_ _) | (with_reducible refine Kd.C_drewN ?_ _) | (with_reducible refine Kd.C_drew ?_))); (case side2 => exact (Kd.R_reads' HO6.out).2.1); (case side3 => repeat (first | exact (Kd.R_reads' HO9.out).2.2 | (with_reducible refine Kd.C_alloc ?_ _) | (with_reducible refine Kd.C_drewN ?_ _) | (with_reducible refine Kd.C_drew ?_))); (case side4 => exact (Kd.R_reads' HO9.out).2.1); rintro e w' ⟨rfl, ⟨nd, rfl⟩⟩; refine ⟨_, rfl, ?_⟩) | ((with_reducible refine gate_dst (N := 12) rfl ?_); (try (refine gate_guard (by rfl) ?_; dsimp only)); refine Kd.R_lit k33 _ 33 ?hg (N := 12) ?hd (xs := ([(⟨0, 4⟩ : S33)] : List (S33))) (inner := [.int .u32 0, .int .u32 4]) (ok := fun _ => True) (okp := fun _ => True) ?hr ?hp (fun _ hk => hk) trivial (Below.refl _ _) (Nat.le_refl _) (by simp) ?_; (case hd => rfl); (case hg => rfl); (case hr => first | (go_simp; done) | (go_simp; rfl)); (case hp => exact (Reps.c2 (show Kd.M k33 _ _ _ (⟨0, 4⟩ : S33) [.int .u32 0, .int .u32 4] from (k33_mkM _ _ _ (⟨0, 4⟩ : S33) )) (Reps.none _ _))); intro v12 w43 ho44 hb hg_ hnew_; clear hg_ hnew_; (first | rw [← Ny11.out] at ho44 | (simp only [Int.reduceToNat] at ho44; rw [← Ny11.out] at ho44)); have n0_ := Aside0.mk (Kd.R_elder' (by (with_reducible repeat (first | apply Kd.R_alloc | apply Kd.R_drewN | apply Kd.R_drew)); exact HO3.out) (Kd.R_base ho44) hb); have n1_ := Aside0.mk (Kd.R_elder' (by (with_reducible repeat (first | apply Kd.R_alloc | apply Kd.R_drewN | apply Kd.R_drew)); exact HO6.out) (Kd.R_base ho44) hb); have n2_ := Aside0.mk (Kd.R_elder' (by (with_reducible repeat (first | apply Kd.R_alloc | apply Kd.R_drewN | apply Kd.R_drew)); exact HO9.out) (Kd.R_base ho44) hb); have n3_ := Aside0.mk (Kd.R_lower (Kd.R_new' (Kd.R_new' (Kd.R_new' ho44 (Kd.R_lt (by (with_reducible repeat (first | apply Kd.R_alloc | apply Kd.R_drewN | apply Kd.R_drew)); exact HO3.out))) (Kd.R_lt (by (with_reducible repeat (first | apply Kd.R_alloc | apply Kd.R_drewN | apply Kd.R_drew)); exact HO6.out))) (Kd.R_lt (by (with_reducible repeat (first | apply Kd.R_alloc | apply Kd.R_drewN | apply Kd.R_drew)); exact HO9.out))) (below_size (by repeat (first | (with_reducible first | exact HB.out | apply below_alloc | apply pw_below_drewN | apply below_drew1) | exact HB.out)))); have n4_ := Aside0.mk (below_step (by repeat (first | (with_reducible first | exact HB.out | apply below_alloc | apply pw_below_drewN | apply below_drew1) | exact HB.out)) hb); clear HO3; clear HO6; clear HO9; clear HB; have HO3 := n0_; have HO6 := n1_; have HO9 := n2_; have HO13 := n3_; have HB := n4_; clear n0_ n1_ n2_ n3_ n4_; clear hb ho44; obtain ⟨Ao45, co45, eo45⟩ := Kd.R_slice HO13.out; subst eo45) | (go_at_call 21; (with_reducible refine (q9z.calls k _ _ y11 t14 _ ?side1 ?side2 A4.out).mono ?_); (case side1 => repeat (first | exact (Kd.R_reads' HO13.out).2.2 | (with_reducible refine Kd.C_alloc ?_ _) | (with_reducible refine Kd.C_drewN ?_ _) | (with_reducible refine Kd.C_drew ?_))); (case side2 => exact (Kd.R_reads' HO13.out).2.1); rintro e w46 ⟨v15, rfl, ho0, hb⟩; have n0_ := Aside0.mk (Kd.R_elder' (by (with_reducible repeat (first | apply Kd.R_alloc | apply Kd.R_drewN | apply Kd.R_drew)); exact HO3.out) (Kd.R_base ho0) hb); have n1_ := Aside0.mk (Kd.R_elder' (by (with_reducible repeat (first | apply Kd.R_alloc | apply Kd.R_drewN | apply Kd.R_drew)); exact HO6.out) (Kd.R_base ho0) hb); have n2_ := Aside0.mk (Kd.R_elder' (by (with_reducible repeat (first | apply Kd.R_alloc | apply Kd.R_drewN | apply Kd.R_drew)); exact HO9.out) (Kd.R_base ho0) hb); have n3_ := Aside0.mk (Kd.R_elder' (by (with_reducible repeat (first | apply Kd.R_alloc | apply Kd.R_drewN | apply Kd.R_drew)); exact HO13.out) (Kd.R_base ho0) hb); have n4_ := Aside0.mk (Kd.R_lower (Kd.R_new' (Kd.R_new' (Kd.R_new' (Kd.R_new' ho0 (Kd.R_lt (by (with_reducible repeat (first | apply Kd.R_alloc | apply Kd.R_drewN | apply Kd.R_drew)); exact HO3.out))) (Kd.R_lt (by (with_reducible repeat (first | apply Kd.R_alloc | apply Kd.R_drewN | apply Kd.R_drew)); exact HO6.out))) (Kd.R_lt (by (with_reducible repeat (first | apply Kd.R_alloc | apply Kd.R_drewN | apply Kd.R_drew)); exact HO9.out))) (Kd.R_lt (by (with_reducible repeat (first | apply Kd.R_alloc | apply Kd.R_drewN | apply Kd.R_drew)); exact HO13.out))) (below_size (by repeat (first | (with_reducible first | exact HB.out | apply below_alloc | apply pw_below_drewN | apply below_drew1) | exact HB.out)))); have n5_ := Aside0.mk (below_step (by repeat (first | (with_reducible first | exact HB.out | apply below_alloc | apply pw_below_drewN | apply below_drew1) | exact HB.out)) hb); clear HO3; clear HO6; clear HO9; clear HO13; clear HB; have HO3 := n0_; have HO6 := n1_; have HO9 := n2_; have HO13 := n3_; have HO16 := n4_; have HB := n5_; clear n0_ n1_ n2_ n3_ n4_ n5_; (try clear hb); (try clear hb2); (try clear hk); (try clear hi); (try clear ho0)) | ((with_reducible refine gate_dst (N := 15) rfl ?_); (try (refine gate_guard (by rfl) ?_; dsimp only)); refine Kd.R_lit k33 _ 33 ?hg (N := 15) ?hd (xs := ([(⟨5, 4294967295⟩ : S33)] : List (S33))) (inner := [.int .u32 5, .int .u32 4294967295]) (ok := fun _ => True) (okp := fun _ => True) ?hr ?hp (fun _ hk => hk) trivial (Below.refl _ _) (Nat.le_refl _) (by simp) ?_; (case hd => rfl); (case hg => rfl); (case hr => first | (go_simp; done) | (go_simp; rfl)); (case hp => exact (Reps.c2 (show Kd.M k33 _ _ _ (⟨5, 4294967295⟩ : S33) [.int .u32 5, .int .u32 4294967295] from (k33_mkM _ _ _ (⟨5, 4294967295⟩ : S33) )) (Reps.none _ _))); intro v18 w47 ho48 hb hg_ hnew_; clear hg_ hnew_; (first | rw [← Ny17.out] at ho48 | (simp only [Int.reduceToNat] at ho48; rw [← Ny17.out] at ho48)); have n0_ := Aside0.mk (Kd.R_elder' (by (with_reducible repeat (first | apply Kd.R_alloc | apply Kd.R_drewN | apply Kd.R_drew)); exact HO3.out) (Kd.R_base ho48) hb); have n1_ := Aside0.mk (Kd.R_elder' (by (with_reducible repeat (first | apply Kd.R_alloc | apply Kd.R_drewN | apply Kd.R_drew)); exact HO6.out) (Kd.R_base ho48) hb); have n2_ := Aside0.mk (Kd.R_elder' (by (with_reducible repeat (first | apply Kd.R_alloc | apply Kd.R_drewN | apply Kd.R_drew)); exact HO9.out) (Kd.R_base ho48) hb); have n3_ := Aside0.mk (Kd.R_elder' (by (with_reducible repeat (first | apply Kd.R_alloc | apply Kd.R_drewN | apply Kd.R_drew)); exact HO13.out) (Kd.R_base ho48) hb); have n4_ := Aside0.mk (Kd.R_elder' (by (with_reducible repeat (first | apply Kd.R_alloc | apply Kd.R_drewN | apply Kd.R_drew)); exact HO16.out) (Kd.R_base ho48) hb); have n5_ := Aside0.mk (Kd.R_lower (Kd.R_new' (Kd.R_new' (Kd.R_new' (Kd.R_new' (Kd.R_new' ho48 (Kd.R_lt (by (with_reducible repeat (first | apply Kd.R_alloc | apply Kd.R_drewN | apply Kd.R_drew)); exact HO3.out))) (Kd.R_lt (by (with_reducible repeat (first | apply Kd.R_alloc | apply Kd.R_drewN | apply Kd.R_drew)); exact HO6.out))) (Kd.R_lt (by (with_reducible repeat (first | apply Kd.R_alloc | apply Kd.R_drewN | apply Kd.R_drew)); exact HO9.out))) (Kd.R_lt (by (with_reducible repeat (first | apply Kd.R_alloc | apply Kd.R_drewN | apply Kd.R_drew)); exact HO13.out))) (Kd.R_lt (by (with_reducible repeat (first | apply Kd.R_alloc | apply Kd.R_drewN | apply Kd.R_drew)); exact HO16.out))) (below_size (by repeat (first | (with_reducible first | exact HB.out | apply below_alloc | apply pw_below_drewN | apply below_drew1) | exact HB.out)))); have n6_ := Aside0.mk (below_step (by repeat (first | (with_reducible first | exact HB.out | apply below_alloc | apply pw_below_drewN | apply below_drew1) | exact HB.out)) hb); clear HO3; clear HO6; clear HO9; clear HO13; clear HO16; clear HB; have HO3 := n0_; have HO6 := n1_; have HO9 := n2_; have HO13 := n3_; have HO16 := n4_; have HO19 := n5_; have HB := n6_; clear n0_ n1_ n2_ n3_ n4_ n5_ n6_; clear hb ho48; obtain ⟨Ao49, co49, eo49⟩ := Kd.R_slice HO16.out; subst eo49; obtain ⟨Ao50, co50, eo50⟩ := Kd.R_slice HO19.out; subst eo50) | (go_at_call 10; (with_reducible refine (q1z.calls k _ _ t14 _ _ y17 false _ ?side1 ?side2 ?side3 ?side4 A5.out).mono ?_); (case side1 => repeat (first | exact (Kd.R_reads' HO16.out).2.2 | (with_reducible refine Kd.C_alloc ?_ _) | (with_reducible refine Kd.C_drewN ?_ _) | (with_reducible refine Kd.C_drew ?_))); (case side2 => exact (Kd.R_reads' HO16.out).2.1); (case side3 => repeat (first | exact (Kd.R_reads' HO19.out).2.2 | (with_reducible refine Kd.C_alloc ?_ _) | (with_reducible refine Kd.C_drewN ?_ _) | (with_reducible refine Kd.C_drew ?_))); (case side4 => exact (Kd.R_reads' HO19.out).2.1); rintro e w' ⟨rfl, ⟨nd, rfl⟩⟩))
   go_ret
   exact ⟨by first | rfl | (simp [errW_none, errW_some] <;> rfl) | (simp [*, errW_none, errW_some] <;> rfl), by repeat (first | (with_reducible first | exact HB.out | apply below_alloc | apply pw_below_drewN | apply below_drew1) | exact HB.out)⟩
 ·
  replace c3 := Bool.eq_false_iff.mpr c3
  subst c3
  have H1 : (some false) = some r := by rw [if_neg (show ¬ (false = true) by decide)] at H; exact H
  clear H
  have H := H1
  clear H1
  obtain rfl := Option.some.inj H
  go_enter Try.func8, Try.ntmps8
  go_wp2_with (first | ((with_reducible refine gate_dst (N := 5) rfl ?_); (try (refine gate_guard (by rfl) ?_; dsimp only)); refine Kd.R_lit k33 _ 33 ?hg (N := 5) ?hd (xs := ([(⟨5, 7⟩ : S33), (⟨1, 2⟩ : S33), (⟨3, 4⟩ : S33), (⟨9, 8⟩ : S33)] : List (S33))) (inner := [.int .u32 5, .int .u32 7, .int .u32 1, .int .u32 2, .int .u32 3, .int .u32 4, .int .u32 9, .int .u32 8]) (ok := fun _ => True) (okp := fun _ => True) ?hr ?hp (fun _ hk => hk) trivial (Below.refl _ _) (Nat.le_refl _) (by simp) ?_; (case hd => rfl); (case hg => rfl); (case hr => first | (go_simp; done) | (go_simp; rfl)); (case hp => exact (Reps.c2 (show Kd.M k33 _ _ _ (⟨5, 7⟩ : S33) [.int .u32 5, .int .u32 7] from (k33_mkM _ _ _ (⟨5, 7⟩ : S33) )) (Reps.c2 (show Kd.M k33 _ _ _ (⟨1, 2⟩ : S33) [.int .u32 1, .int .u32 2] from (k33_mkM _ _ _ (⟨1, 2⟩ : S33) )) (Reps.c2 (show Kd.M k33 _ _ _ (⟨3, 4⟩ : S33) [.int .u32 3, .int .u32 4] from (k33_mkM _ _ _ (⟨3, 4⟩ : S33) )) (Reps.c2 (show Kd.M k33 _ _ _ (⟨9, 8⟩ : S33) [.int .u32 9, .int .u32 8] from (k33_mkM _ _ _ (⟨9, 8⟩ : S33) )) (Reps.none _ _)))))); intro v2 w51 ho52 hb hg_ hnew_; clear hg_ hnew_; (first | rw [← Ny1.out] at ho52 | (simp only [Int.reduceToNat] at ho52; rw [← Ny1.out] at ho52)); have n0_ := Aside0.mk (Kd.R_lower ho52 (below_size (by repeat (first | (with_reducible first | exact HB.out | apply below_alloc | apply pw_below_drewN | apply below_drew1) | exact HB.out)))); have n1_ := Aside0.mk (below_step (by repeat (first | (with_reducible first | exact HB.out | apply below_alloc | apply pw_below_drewN | apply below_drew1) | exact HB.out)) hb); clear HB; have HO3 := n0_; have HB := n1_; clear n0_ n1_; clear hb ho52; obtain ⟨Ao53, co53, eo53⟩ := Kd.R_slice HO3.out; subst eo53) | ((with_reducible refine gate_callee (f := 14) rfl ?_); refine goesL_ (some 6) rfl rfl Try.func14 (by kernel_rfl) rfl #[.slice Ao53 y1.length co53] rfl (by (try simp only [List.map_toArray, List.map_cons, List.map_nil]); first | done | rfl | (simp only [List.length_drop, List.length_take]; rfl)) ?_; (with_reducible refine (q2z.calls k _ _ y1 t4 _ ?side1 ?side2 A1.out).mono ?_); (case side1 => repeat (first | exact (Kd.R_reads' HO3.out).2.2 | (with_reducible refine Kd.C_alloc ?_ _) | (with_reducible refine Kd.C_drewN ?_ _) | (with_reducible refine Kd.C_drew ?_))); (case side2 => exact (Kd.R_reads' HO3.out).2.1); rintro e w54 ⟨v5, rfl, ho0, hb⟩; refine ⟨_, rfl, ?_⟩; have n0_ := Aside0.mk (Kd.R_elder' (by (with_reducible repeat (first | apply Kd.R_alloc | apply Kd.R_drewN | apply Kd.R_drew)); exact HO3.out) (Kd.R_base ho0) hb); have n1_ := Aside0.mk (Kd.R_lower (Kd.R_new' ho0 (Kd.R_lt (by (with_reducible repeat (first | apply Kd.R_alloc | apply Kd.R_drewN | apply Kd.R_drew)); exact HO3.out))) (below_size (by repeat (first | (with_reducible first | exact HB.out | apply below_alloc | apply pw_below_drewN | apply below_drew1) | exact HB.out)))); have n2_ := Aside0.mk (below_step (by repeat (first | (with_reducible first | exact HB.out | apply below_alloc | apply pw_below_drewN | apply below_drew1) | exact HB.out)) hb); clear HO3; clear HB; have HO3 := n0_; have HO6 := n1_; have HB := n2_; clear n0_ n1_ n2_; (try clear hb); (try clear hb2); (try clear hk); (try clear hi); (try clear ho0)) | ((with_reducible refine gate_dst (N := 8) rfl ?_); (try (refine gate_guard (by rfl) ?_; dsimp only)); refine Kd.R_lit k33 _ 33 ?hg (N := 8) ?hd (xs := ([(⟨1, 7⟩ : S33)] : List (S33))) (inner := [.int .u32 1, .int .u32 7]) (ok := fun _ => True) (okp := fun _ => True) ?hr ?hp (fun _ hk => hk) trivial (Below.refl _ _) (Nat.le_refl _) (by simp) ?_; (case hd => rfl); (case hg => rfl); (case hr => first | (go_simp; done) | (go_simp; rfl)); (case hp => exact (Reps.c2 (show Kd.M k33 _ _ _ (⟨1, 7⟩ : S33) [.int .u32 1, .int .u32 7] from (k33_mkM _ _ _ (⟨1, 7⟩ : S33) )) (Reps.none _ _))); intro v8 w55 ho56 hb hg_ hnew_; clear hg_ hnew_; (first | rw [← Ny7.out] at ho56 | (simp only [Int.reduceToNat] at ho56; rw [← Ny7.out] at ho56)); have n0_ := Aside0.mk (Kd.R_elder' (by (with_reducible repeat (first | apply Kd.R_alloc | apply Kd.R_drewN | apply Kd.R_drew)); exact HO3.out) (Kd.R_base ho56) hb); have n1_ := Aside0.mk (Kd.R_elder' (by (with_reducible repeat (first | apply Kd.R_alloc | apply Kd.R_drewN | apply Kd.R_drew)); exact HO6.out) (Kd.R_base ho56) hb); have n2_ := Aside0.mk (Kd.R_lower (Kd.R_new' (Kd.R_new' ho56 (Kd.R_lt (by (with_reducible repeat (first | apply Kd.R_alloc | apply Kd.R_drewN | apply Kd.R_drew)); exact HO3.out))) (Kd.R_lt (by (with_reducible repeat (first | apply Kd.R_alloc | apply Kd.R_drewN | apply Kd.R_drew)); exact HO6.out))) (below_size (by repeat (first | (with_reducible first | exact HB.out | apply below_alloc | apply pw_below_drewN | apply below_drew1) | exact HB.out)))); have n3_ := Aside0.mk (below_step (by repeat (first | (with_reducible first | exact HB.out | apply below_alloc | apply pw_below_drewN | apply below_drew1) | exact HB.out)) hb); clear HO3; clear HO6; clear HB; have HO3 := n0_; have HO6 := n1_; have HO9 := n2_; have HB := n3_; clear n0_ n1_ n2_ n3_; clear hb ho56; obtain ⟨Ao57, co57, eo57⟩ := Kd.R_slice HO6.out; subst eo57; obtain ⟨Ao58, co58, eo58⟩ := Kd.R_slice HO9.out; subst eo58) | ((with_reducible refine gate_callee (f := 10) rfl ?_); refine goesL_ (some 9) rfl rfl Try.func10 (by kernel_rfl) rfl #[.slice Ao57 t4.length co57, .slice Ao58 y7.length co58] rfl (by (try simp only [List.map_toArray, List.map_cons, List.map_nil]); first | done | rfl | (simp only [List.length_drop, List.length_take]; rfl)) ?_; (with_reducible refine (q1z.calls k _ _ t4 _ _ y7 false _ ?side1 ?side2 ?side3 ?side4 A2.out).mono ?_); (case side1 => repeat (first | exact (Kd.R_reads' HO6.out).2.2 | (with_reducible refine Kd.C_alloc ?_ _) | (with_reducible refine Kd.C_drewN ?_ _) | (with_reducible refine Kd.C_drew ?_))); (case side2 => exact (Kd.R_reads' HO6.out).2.1); (case side3 => repeat (first | exact (Kd.R_reads' HO9.out).2.2 | (with_reducible refine Kd.C_alloc ?_ _) | (with_reducible refine Kd.C_drewN ?_ _) | (with_reducible refine Kd.C_drew ?_))); (case side4 => exact (Kd.R_reads' HO9.out).2.1); rintro e w' ⟨rfl, ⟨nd, rfl⟩⟩; refine ⟨_, rfl, ?_⟩))
  go_ret
  exact ⟨by first | rfl | (simp [errW_none, errW_some] <;> rfl) | (simp [*, errW_none, errW_some] <;> rfl), by repeat (first | (with_reducible first | exact HB.out | apply below_alloc | apply pw_below_drewN | apply below_drew1) | exact HB.out)⟩

end Go.Proofs.Ytconaifcjnpabaa.P

namespace Go.Proofs.Ytconaifcjnpabaa.P
open Go.RowKit Go.Proofs.YtconaifcjnpabaaW.PrintWords Go.Proofs.YtconaifcjnpabaaW.PrintLast Go.Proofs.YtconaifcjnpabaaW.PrintMore
attribute [local go_sem] max2_int min2_int max_two min_two max_three min_three max_four min_four
set_option linter.unusedVariables false
set_option linter.unusedSimpArgs false

/-! ### dragomanlaw01_great: function 9 -/
def q11z.f (l0 : List (S33)) : Option (Bool) := some (decide ((l0.length : Int) > 100))
set_option maxHeartbeats 8000000 in
set_option maxRecDepth 100000 in
theorem q11z.calls (A0 : Option Addr) (c0 : Nat) (l0 : List (S33)) (r : Bool) (w : World) (hr0 : Kd.C k33 w A0 l0.length l0) (hc0 : l0.length ≤ c0) (h : q11z.f l0 = some r) :
  Calls Try.prog 9 #[.slice A0 l0.length c0] w fun e w' => e = .returned (.bool r) ∧ Drawn0 w w' := by
 have HR0 := Aside0.mk hr0
 have HC0 := Aside0.mk hc0
 clear hr0 hc0
 have H : (some (decide ((l0.length : Int) > 100))) = some r := h
 clear h
 obtain rfl := Option.some.inj H
 go_enter Try.func9, Try.ntmps9
 go_wp2
 go_ret
 exact ⟨by first | rfl | (simp; done) | (simp [*]; done), by repeat (first | exact Drawn0.refl _ | apply Drawn0.step)⟩

end Go.Proofs.Ytconaifcjnpabaa.P

namespace Go.Proofs.Ytconaifcjnpabaa.P
open Go.RowKit Go.Proofs.YtconaifcjnpabaaW.PrintWords Go.Proofs.YtconaifcjnpabaaW.PrintLast Go.Proofs.YtconaifcjnpabaaW.PrintMore
attribute [local go_sem] max2_int min2_int max_two min_two max_three min_three max_four min_four
set_option linter.unusedVariables false
set_option linter.unusedSimpArgs false

/-! ### dragomanlaw01_SpanAtoms: function 3 -/
def q12z.l0 : Nat → List (List (S33)) → Int → List (List (S33)) → Int → Int → Option (Bool)
 | 0, _, _, _, _, _ => none
 | k + 1, x0, x3, x8, x9, x10 => if x10 < x9 then (if 0 ≤ x10 then (if x10 < (x8.length : Int) then (if (wrap64 (x3 + (mn ((rd_L2 x8 x10).length : Int) 100))) > 80 then (some true) else ((q11z.f (rd_L2 x8 x10)).bind fun t3 => (if t3 = true then (some true) else (q12z.l0 k x0 (wrap64 (x3 + (mn ((rd_L2 x8 x10).length : Int) 100))) x8 x9 (wrap64 (x10 + 1)))))) else (none)) else (none)) else (if (x0.length : Int) > 40 then (some true) else ((q3z.f k x0).bind fun t4 => ((q8z.f k x0).bind fun t7 => ((q1z.f k t4 t7).bind fun t10 => (some t10)))))
def q12z.f (k : Nat) (l0 : List (List (S33))) : Option (Bool) := (q10z.f k).bind fun t1 => (if t1 = true then (q12z.l0 k l0 0 l0 (l0.length : Int) 0) else (some false))
theorem q12z.mono_l : ∀ k, (∀ y0 y1 y2 y3 y4, LeO (q12z.l0 k y0 y1 y2 y3 y4) (q12z.l0 (k + 1) y0 y1 y2 y3 y4))
 | 0 => fun _ _ _ _ _ r h => by simp [q12z.l0] at h
 | k + 1 => by
  have ih0 := q12z.mono_l k
  ·
   intro y0 y1 y2 y3 y4
   unfold q12z.l0
   repeat' first
   | (with_reducible exact ih0 _ _ _ _ _)
   | (with_reducible exact q10z.mono _)
   | (with_reducible exact q8z.mono _ _)
   | (with_reducible exact q1z.mono _ _ _)
   | (with_reducible exact q3z.mono _ _)
   | (with_reducible exact LeO.refl _)
   | (with_reducible exact LeO.none _)
   | (with_reducible refine LeO.ite ?_ ?_)
   | (with_reducible refine LeO.bind ?_ (fun _ => ?_))
   | exact ih0 _ _ _ _ _
   | exact q10z.mono _
   | exact q8z.mono _ _
   | exact q1z.mono _ _ _
   | exact q3z.mono _ _
   | exact LeO.none _
   | refine LeO.ite ?_ ?_
   | refine LeO.bind ?_ (fun _ => ?_)
theorem q12z.mono : ∀ a0 k, LeO (q12z.f k a0) (q12z.f (k + 1) a0) := by
 intro a0 k
 have ih0 := q12z.mono_l k
 unfold q12z.f
 repeat' first
   | (with_reducible exact ih0 _ _ _ _ _)
   | (with_reducible exact q10z.mono _)
   | (with_reducible exact q8z.mono _ _)
   | (with_reducible exact q1z.mono _ _ _)
   | (with_reducible exact q3z.mono _ _)
   | (with_reducible exact LeO.refl _)
   | (with_reducible exact LeO.none _)
   | (with_reducible refine LeO.ite ?_ ?_)
   | (with_reducible refine LeO.bind ?_ (fun _ => ?_))
   | exact ih0 _ _ _ _ _
   | exact q10z.mono _
   | exact q8z.mono _ _
   | exact q1z.mono _ _ _
   | exact q3z.mono _ _
   | exact LeO.none _
   | refine LeO.ite ?_ ?_
   | refine LeO.bind ?_ (fun _ => ?_)
set_option maxHeartbeats 8000000 in
set_option maxRecDepth 100000 in
theorem q12z.calls (k : Nat) (A0 : Option Addr) (c0 : Nat) (l0 : List (List (S33))) (r : Bool) (w : World) (hr0 : Kd.C (Kd.slice 33 k33) w A0 l0.length l0) (hc0 : l0.length ≤ c0) (h : q12z.f k l0 = some r) :
  Calls Try.prog 3 #[.slice A0 l0.length c0] w fun e w' => e = .returned (.bool r) ∧ Below w.heap.size w w' := by
 have HR0 := Aside0.mk hr0
 have HC0 := Aside0.mk hc0
 clear hr0 hc0
 have HB := Aside0.mk (Below.refl w.heap.size w)
 have H : ((q10z.f k).bind fun t1 => (if t1 = true then (q12z.l0 k l0 0 l0 (l0.length : Int) 0) else (some false))) = some r := h
 clear h
 replace H := Option.bind_eq_some_iff.mp H
 obtain ⟨t1, A20, H⟩ := H
 replace H : (if t1 = true then (q12z.l0 k l0 0 l0 (l0.length : Int) 0) else (some false)) = some r := H
 have A2 := Aside0.mk A20
 clear A20
 by_cases c3 : t1 = true
 ·
  subst c3
  have H1 : (q12z.l0 k l0 0 l0 (l0.length : Int) 0) = some r := by rw [if_pos rfl] at H; exact H
  clear H
  have H := H1
  clear H1
  have H' := Aside0.mk H
  clear H
  go_enter Try.func3, Try.ntmps3
  go_wp2_with (first | ((with_reducible refine gate_callee (f := 8) rfl ?_); refine goesL_ (some 6) rfl rfl Try.func8 (by kernel_rfl) rfl #[] rfl (by (try simp only [List.map_toArray, List.map_cons, List.map_nil]); first | done | rfl | (simp only [List.length_drop, List.length_take]; rfl)) ?_; (with_reducible refine (q10z.calls k  true _ A2.out).mono ?_); rintro e w4 ⟨rfl, hb⟩; refine ⟨_, rfl, ?_⟩; have n0_ := Aside0.mk (below_step (by repeat (first | (with_reducible first | exact HB.out | apply below_alloc | apply pw_below_drewN | apply below_drew1) | exact HB.out)) hb); clear HB; have HB := n0_; clear n0_; (try clear hb); (try clear hb2); (try clear hk); (try clear hi)))
  go_loopg [3, 10] k (fun kq v3 v10 w' => ∃ (x3_1 : Int) (x10_1 : Int), v3 = .int .i64 x3_1 ∧ v10 = .int .i64 x10_1 ∧ Aside0 (q12z.l0 kq l0 x3_1 l0 (l0.length : Int) x10_1 = some r) ∧ Aside0 (kq ≤ k) ∧ Aside0 (Below w.heap.size w w'))
  case atStart => exact ⟨(0), (0), (by first | rfl | (simp; done) | (simp [*]; done)), (by first | rfl | (simp; done) | (simp [*]; done)), H', ⟨Nat.le_refl _⟩, ⟨by repeat (first | (with_reducible first | exact HB.out | apply below_alloc | apply pw_below_drewN | apply below_drew1) | exact HB.out)⟩⟩
  case round =>
   clear H'
   try clear p2
   try clear c3
   obtain ⟨x3_1, x10_1, rfl, rfl, HA, HK1, HB⟩ := hrel
   cases gk with
   | zero => exact absurd HA.out (by simp [q12z.l0])
   | succ k1 =>
    have H := HA.out
    clear HA
    simp only [q12z.l0] at H
    by_cases c5 : x10_1 < (l0.length : Int)
    ·
     rw [if_pos c5] at H
     have c5b0 : decide (x10_1 < (l0.length : Int)) = true := decide_eq_true c5
     clear c5
     by_cases c6 : 0 ≤ x10_1
     ·
      rw [if_pos c6] at H
      have c6b0 : decide (0 ≤ x10_1) = true := decide_eq_true c6
      clear c6
      by_cases c7 : x10_1 < (l0.length : Int)
      ·
       rw [if_pos c7] at H
       have c7b0 : decide (x10_1 < (l0.length : Int)) = true := decide_eq_true c7
       clear c7
       obtain ⟨ji8, hji8⟩ : ∃ j_ : Int, (mn ((rd_L2 l0 x10_1).length : Int) 100) = j_ := ⟨_, rfl⟩
       replace H : (if (wrap64 (x3_1 + (ji8))) > 80 then (some true) else ((q11z.f (rd_L2 l0 x10_1)).bind fun t3 => (if t3 = true then (some true) else (q12z.l0 k1 l0 (wrap64 (x3_1 + (ji8))) l0 (l0.length : Int) (wrap64 (x10_1 + 1)))))) = some r := by first | (rw [hji8] at H; exact H) | (simp only [hji8] at H ⊢; exact H)
       have hji8_ : (if 100 < ((rd_L2 l0 x10_1).length : Int) then 100 else ((rd_L2 l0 x10_1).length : Int)) = ji8 := hji8
       by_cases c9 : (wrap64 (x3_1 + (ji8))) > 80
       ·
        rw [if_pos c9] at H
        have c9b0 : decide (80 < (wrap64 (x3_1 + (ji8)))) = true := decide_eq_true c9
        clear c9
        obtain rfl := Option.some.inj H
        have p2 : 0 ≤ (x10_1 : Int) := of_decide_eq_true (by first | (with_reducible assumption) | assumption)
        have q2 : x10_1 < (l0.length : Int) := of_decide_eq_true (by first | (with_reducible assumption) | assumption)
        obtain ⟨ad2, A2_0, c2_0, e2, hx2_0, hl2_0, hi2_0⟩ := at_L2 HR0.out x10_1 p2 q2
        cases e2
        replace hx2_0 := (HB.out.cell (World.block_lt_of_cell? w _ hx2_0)).trans hx2_0
        have HR2_0 := Aside0.mk hi2_0
        have HC2_0 := Aside0.mk hl2_0
        clear hi2_0 hl2_0
        replace p2 := eq_true p2
        replace q2 := eq_true q2
        go_wp2
        go_ret
        exact ⟨by first | rfl | (simp [errW_none, errW_some] <;> rfl) | (simp only [← hji8]; first | rfl | (simp [errW_none, errW_some] <;> rfl)) | (simp [*, errW_none, errW_some] <;> rfl), by repeat (first | (with_reducible first | exact HB.out | apply below_alloc | apply pw_below_drewN | apply below_drew1) | exact HB.out)⟩
       ·
        rw [if_neg c9] at H
        have c9b0 : decide (80 < (wrap64 (x3_1 + (ji8)))) = false := decide_eq_false c9
        clear c9
        replace H := Option.bind_eq_some_iff.mp H
        obtain ⟨t3, A100, H⟩ := H
        replace H : (if t3 = true then (some true) else (q12z.l0 k1 l0 (wrap64 (x3_1 + (ji8))) l0 (l0.length : Int) (wrap64 (x10_1 + 1)))) = some r := H
        have A10 := Aside0.mk A100
        clear A100
        by_cases c11 : t3 = true
        ·
         subst c11
         have H1 : (some true) = some r := by rw [if_pos rfl] at H; exact H
         clear H
         have H := H1
         clear H1
         obtain rfl := Option.some.inj H
         have p2 : 0 ≤ (x10_1 : Int) := of_decide_eq_true (by first | (with_reducible assumption) | assumption)
         have q2 : x10_1 < (l0.length : Int) := of_decide_eq_true (by first | (with_reducible assumption) | assumption)
         obtain ⟨ad2, A2_0, c2_0, e2, hx2_0, hl2_0, hi2_0⟩ := at_L2 HR0.out x10_1 p2 q2
         cases e2
         replace hx2_0 := (HB.out.cell (World.block_lt_of_cell? w _ hx2_0)).trans hx2_0
         have HR2_0 := Aside0.mk hi2_0
         have HC2_0 := Aside0.mk hl2_0
         clear hi2_0 hl2_0
         replace p2 := eq_true p2
         replace q2 := eq_true q2
         go_wp2_with (first | (go_at_call 9; (with_reducible refine (q11z.calls _ _ (rd_L2 l0 x10_1) true _ ?side1 ?side2 A10.out).mono ?_); (case side1 => repeat (first | exact (Kd.C_below HR2_0.out HB.out) | (with_reducible refine Kd.C_alloc ?_ _) | (with_reducible refine Kd.C_drewN ?_ _) | (with_reducible refine Kd.C_drew ?_))); (case side2 => exact HC2_0.out); rintro e w' ⟨rfl, ⟨nd, rfl⟩⟩))
         go_ret
         exact ⟨by first | rfl | (simp [errW_none, errW_some] <;> rfl) | (simp only [← hji8]; first | rfl | (simp [errW_none, errW_some] <;> rfl)) | (simp [*, errW_none, errW_some] <;> rfl), by repeat (first | (with_reducible first | exact HB.out | apply below_alloc | apply pw_below_drewN | apply below_drew1) | exact HB.out)⟩
        ·
         replace c11 := Bool.eq_false_iff.mpr c11
         subst c11
         have H1 : (q12z.l0 k1 l0 (wrap64 (x3_1 + (ji8))) l0 (l0.length : Int) (wrap64 (x10_1 + 1))) = some r := by rw [if_neg (show ¬ (false = true) by decide)] at H; exact H
         clear H
         have H := H1
         clear H1
         have H' := Aside0.mk H
         clear H
         have p2 : 0 ≤ (x10_1 : Int) := of_decide_eq_true (by first | (with_reducible assumption) | assumption)
         have q2 : x10_1 < (l0.length : Int) := of_decide_eq_true (by first | (with_reducible assumption) | assumption)
         obtain ⟨ad2, A2_0, c2_0, e2, hx2_0, hl2_0, hi2_0⟩ := at_L2 HR0.out x10_1 p2 q2
         cases e2
         replace hx2_0 := (HB.out.cell (World.block_lt_of_cell? w _ hx2_0)).trans hx2_0
         have HR2_0 := Aside0.mk hi2_0
         have HC2_0 := Aside0.mk hl2_0
         clear hi2_0 hl2_0
         replace p2 := eq_true p2
         replace q2 := eq_true q2
         go_wp2_with (first | (go_at_call 9; (with_reducible refine (q11z.calls _ _ (rd_L2 l0 x10_1) false _ ?side1 ?side2 A10.out).mono ?_); (case side1 => repeat (first | exact (Kd.C_below HR2_0.out HB.out) | (with_reducible refine Kd.C_alloc ?_ _) | (with_reducible refine Kd.C_drewN ?_ _) | (with_reducible refine Kd.C_drew ?_))); (case side2 => exact HC2_0.out); rintro e w' ⟨rfl, ⟨nd, rfl⟩⟩))
         go_roundg k1
         case measure => have := HK1.out; omega
         case rel => exact ⟨(wrap64 (x3_1 + (ji8))), (wrap64 (x10_1 + 1)), (by first | rfl | (simp; done) | (simp only [← hji8] <;> (first | rfl | simp)) | (simp [*]; done)), (by first | rfl | (simp; done) | (simp [*]; done)), H', ⟨by have := HK1.out; omega⟩, ⟨by repeat (first | (with_reducible first | exact HB.out | apply below_alloc | apply pw_below_drewN | apply below_drew1) | exact HB.out)⟩⟩
      ·
       rw [if_neg c7] at H
       exact absurd H (by simp)
     ·
      rw [if_neg c6] at H
      exact absurd H (by simp)
    ·
     rw [if_neg c5] at H
     have c5b0 : decide (x10_1 < (l0.length : Int)) = false := decide_eq_false c5
     clear c5
     by_cases c12 : (l0.length : Int) > 40
     ·
      rw [if_pos c12] at H
      have c12b0 : decide (40 < (l0.length : Int)) = true := decide_eq_true c12
      have c12b1 : decide (40 < l0.length) = true := decide_eq_true (by omega)
      clear c12
      obtain rfl := Option.some.inj H
      go_wp2
      go_ret
      exact ⟨by first | rfl | (simp [errW_none, errW_some] <;> rfl) | (simp [*, errW_none, errW_some] <;> rfl), by repeat (first | (with_reducible first | exact HB.out | apply below_alloc | apply pw_below_drewN | apply below_drew1) | exact HB.out)⟩
     ·
      rw [if_neg c12] at H
      have c12b0 : decide (40 < (l0.length : Int)) = false := decide_eq_false c12
      have c12b1 : decide (40 < l0.length) = false := decide_eq_false (by omega)
      clear c12
      replace H := Option.bind_eq_some_iff.mp H
      obtain ⟨t4, A130, H⟩ := H
      replace H : ((q8z.f k1 l0).bind fun t7 => ((q1z.f k1 t4 t7).bind fun t10 => (some t10))) = some r := H
      have A13 := Aside0.mk A130
      clear A130
      replace H := Option.bind_eq_some_iff.mp H
      obtain ⟨t7, A140, H⟩ := H
      replace H : ((q1z.f k1 t4 t7).bind fun t10 => (some t10)) = some r := H
      have A14 := Aside0.mk A140
      clear A140
      replace H := Option.bind_eq_some_iff.mp H
      obtain ⟨t10, A150, H⟩ := H
      replace H : (some t10) = some r := H
      have A15 := Aside0.mk A150
      clear A150
      obtain rfl := Option.some.inj H
      go_wp2_with (first | ((with_reducible refine gate_callee (f := 11) rfl ?_); refine goesL_ (some 30) rfl rfl Try.func11 (by kernel_rfl) rfl #[.slice A0 l0.length c0] rfl (by (try simp only [List.map_toArray, List.map_cons, List.map_nil]); first | done | rfl | (simp only [List.length_drop, List.length_take]; rfl)) ?_; (with_reducible refine (q3z.calls k1 _ _ l0 t4 _ ?side1 ?side2 A13.out).mono ?_); (case side1 => repeat (first | exact (Kd.C_below HR0.out HB.out) | (with_reducible refine Kd.C_alloc ?_ _) | (with_reducible refine Kd.C_drewN ?_ _) | (with_reducible refine Kd.C_drew ?_))); (case side2 => exact HC0.out); rintro e w16 ⟨v5, rfl, ho0, hb⟩; refine ⟨_, rfl, ?_⟩; have n0_ := Aside0.mk (Kd.R_lower ho0 (below_size (by repeat (first | (with_reducible first | exact HB.out | apply below_alloc | apply pw_below_drewN | apply below_drew1) | exact HB.out)))); have n1_ := Aside0.mk (below_step (by repeat (first | (with_reducible first | exact HB.out | apply below_alloc | apply pw_below_drewN | apply below_drew1) | exact HB.out)) hb); clear HB; have HO6 := n0_; have HB := n1_; clear n0_ n1_; (try clear hb); (try clear hb2); (try clear hk); (try clear hi); (try clear ho0)) | ((with_reducible refine gate_callee (f := 12) rfl ?_); refine goesL_ (some 32) rfl rfl Try.func12 (by kernel_rfl) rfl #[.slice A0 l0.length c0] rfl (by (try simp only [List.map_toArray, List.map_cons, List.map_nil]); first | done | rfl | (simp only [List.length_drop, List.length_take]; rfl)) ?_; (with_reducible refine (q8z.calls k1 _ _ l0 t7 _ ?side1 ?side2 A14.out).mono ?_); (case side1 => repeat (first | exact (Kd.C_below HR0.out HB.out) | (with_reducible refine Kd.C_alloc ?_ _) | (with_reducible refine Kd.C_drewN ?_ _) | (with_reducible refine Kd.C_drew ?_))); (case side2 => exact HC0.out); rintro e w17 ⟨v8, rfl, ho0, hb⟩; refine ⟨_, rfl, ?_⟩; have n0_ := Aside0.mk (Kd.R_elder' (by (with_reducible repeat (first | apply Kd.R_alloc | apply Kd.R_drewN | apply Kd.R_drew)); exact HO6.out) (Kd.R_base ho0) hb); have n1_ := Aside0.mk (Kd.R_lower (Kd.R_new' ho0 (Kd.R_lt (by (with_reducible repeat (first | apply Kd.R_alloc | apply Kd.R_drewN | apply Kd.R_drew)); exact HO6.out))) (below_size (by repeat (first | (with_reducible first | exact HB.out | apply below_alloc | apply pw_below_drewN | apply below_drew1) | exact HB.out)))); have n2_ := Aside0.mk (below_step (by repeat (first | (with_reducible first | exact HB.out | apply below_alloc | apply pw_below_drewN | apply below_drew1) | exact HB.out)) hb); clear HO6; clear HB; have HO6 := n0_; have HO9 := n1_; have HB := n2_; clear n0_ n1_ n2_; (try clear hb); (try clear hb2); (try clear hk); (try clear hi); (try clear ho0); obtain ⟨Ao18, co18, eo18⟩ := Kd.R_slice HO6.out; subst eo18; obtain ⟨Ao19, co19, eo19⟩ := Kd.R_slice HO9.out; subst eo19) | ((with_reducible refine gate_callee (f := 10) rfl ?_); refine goesL_ (some 33) rfl rfl Try.func10 (by kernel_rfl) rfl #[.slice Ao18 t4.length co18, .slice Ao19 t7.length co19] rfl (by (try simp only [List.map_toArray, List.map_cons, List.map_nil]); first | done | rfl | (simp only [List.length_drop, List.length_take]; rfl)) ?_; (with_reducible refine (q1z.calls k1 _ _ t4 _ _ t7 t10 _ ?side1 ?side2 ?side3 ?side4 A15.out).mono ?_); (case side1 => repeat (first | exact (Kd.R_reads' HO6.out).2.2 | (with_reducible refine Kd.C_alloc ?_ _) | (with_reducible refine Kd.C_drewN ?_ _) | (with_reducible refine Kd.C_drew ?_))); (case side2 => exact (Kd.R_reads' HO6.out).2.1); (case side3 => repeat (first | exact (Kd.R_reads' HO9.out).2.2 | (with_reducible refine Kd.C_alloc ?_ _) | (with_reducible refine Kd.C_drewN ?_ _) | (with_reducible refine Kd.C_drew ?_))); (case side4 => exact (Kd.R_reads' HO9.out).2.1); rintro e w' ⟨rfl, ⟨nd, rfl⟩⟩; refine ⟨_, rfl, ?_⟩))
      go_ret
      exact ⟨by first | rfl | (simp [errW_none, errW_some] <;> rfl) | (simp [*, errW_none, errW_some] <;> rfl), by repeat (first | (with_reducible first | exact HB.out | apply below_alloc | apply pw_below_drewN | apply below_drew1) | exact HB.out)⟩
 ·
  replace c3 := Bool.eq_false_iff.mpr c3
  subst c3
  have H1 : (some false) = some r := by rw [if_neg (show ¬ (false = true) by decide)] at H; exact H
  clear H
  have H := H1
  clear H1
  obtain rfl := Option.some.inj H
  go_enter Try.func3, Try.ntmps3
  go_wp2_with (first | ((with_reducible refine gate_callee (f := 8) rfl ?_); refine goesL_ (some 6) rfl rfl Try.func8 (by kernel_rfl) rfl #[] rfl (by (try simp only [List.map_toArray, List.map_cons, List.map_nil]); first | done | rfl | (simp only [List.length_drop, List.length_take]; rfl)) ?_; (with_reducible refine (q10z.calls k  false _ A2.out).mono ?_); rintro e w20 ⟨rfl, hb⟩; refine ⟨_, rfl, ?_⟩; have n0_ := Aside0.mk (below_step (by repeat (first | (with_reducible first | exact HB.out | apply below_alloc | apply pw_below_drewN | apply below_drew1) | exact HB.out)) hb); clear HB; have HB := n0_; clear n0_; (try clear hb); (try clear hb2); (try clear hk); (try clear hi)))
  go_ret
  exact ⟨by first | rfl | (simp [errW_none, errW_some] <;> rfl) | (simp [*, errW_none, errW_some] <;> rfl), by repeat (first | (with_reducible first | exact HB.out | apply below_alloc | apply pw_below_drewN | apply below_drew1) | exact HB.out)⟩

end Go.Proofs.Ytconaifcjnpabaa.P

namespace Go.Proofs.Ytconaifcjnpabaa.P
open Go.RowKit Go.Proofs.YtconaifcjnpabaaW.PrintWords Go.Proofs.YtconaifcjnpabaaW.PrintLast Go.Proofs.YtconaifcjnpabaaW.PrintMore Go.ChangeShapes Go.WideShapes
set_option linter.unusedVariables false
section
variable {H : Type} {enc : TypeId × Value → H} {P : Program} {w : World} {base : Nat} {spare : Nat → Bool} {held : Bool}
/-- Whatever reads as data of type T is a value of kind d. -/
def Opens (enc : TypeId × Value → H) (P : Program) (w : World) (base : Nat) (spare : Nat → Bool) (held : Bool) {α : Type} (d : Kd α) (T : TypeId) (good : α → Prop) : Prop :=
  ∀ fuel cs y, DataW.trod enc P w base spare held fuel T cs = some y → ∃ x, d.K w x cs ∧ good x
theorem opens_int {k : IntKind} {T : TypeId} (ht : P.underlying T = some (.int k)) : Opens enc P w base spare held (Kd.int k) T (fun n => (Lit.int k n).wf = true) := by
  intro fuel cs y h
  obtain ⟨n, rfl, _, hw⟩ := DataW.trod_int ht h
  exact ⟨n, rfl, hw⟩
theorem opens_string {T : TypeId} (ht : P.underlying T = some .string) : Opens enc P w base spare held Kd.string T (fun s => s.size ≤ maxLen) := by
  intro fuel cs y h
  obtain ⟨s, rfl, _, hw⟩ := DataW.trod_string ht h
  exact ⟨s, rfl, hw⟩
theorem opens_bool {T : TypeId} (ht : P.underlying T = some .bool) : Opens enc P w base spare held Kd.bool T (fun _ => True) := by
  intro fuel cs y h
  cases fuel with
  | zero => simp [DataW.trod] at h
  | succ n =>
    unfold DataW.trod at h
    rw [ht] at h
    split at h
    all_goals first | exact ⟨_, rfl, trivial⟩ | (exfalso; simp_all; done)
theorem pick_list {α : Type} {Q : Nat → α → Prop} : ∀ n : Nat, (∀ i, i < n → ∃ x, Q i x) → ∃ xs : List α, xs.length = n ∧ ∀ i x, xs[i]? = some x → Q i x
  | 0, _ => ⟨[], rfl, fun i x h => by simp at h⟩
  | n + 1, h => by
    obtain ⟨xs, hl, hx⟩ := pick_list n (fun i hi => h i (by omega))
    obtain ⟨x, hxn⟩ := h n (by omega)
    refine ⟨xs ++ [x], by simp [hl], fun i z hz => ?_⟩
    by_cases hi : i < n
    · rw [List.getElem?_append_left (by omega)] at hz
      exact hx i z hz
    · rw [List.getElem?_append_right (by omega)] at hz
      have hi0 : i - xs.length = 0 := by
        have := (List.getElem?_eq_some_iff.1 hz).1
        simp at this
        omega
      rw [hi0] at hz
      have : x = z := by simpa using hz
      subst this
      have : i = n := by omega
      subst this
      exact hxn
theorem opens_slice {α : Type} {d : Kd α} {T e : TypeId} {good : α → Prop} (ht : P.underlying T = some (.slice e)) (hce : P.cellsOf e = d.sz) (ho : Opens enc P w base spare held d e good) :
    Opens enc P w base spare held (Kd.slice e d) T (fun xs => xs.length ≤ 9223372036854775807 ∧ ∀ x ∈ xs, good x) := by
  intro fuel cs y h
  rcases Go.Deep.open_slice ht h with ⟨rfl, _⟩ | ⟨a, len, cap, m, n, D, Pl, rfl, hb, hl, hm, hmm, _, hx⟩
  · exact ⟨[], ⟨none, 0, rfl, Nat.le_refl _, ⟨rfl, by simp, fun h => absurd h (by simp)⟩⟩, by simp, fun x hx => (List.not_mem_nil hx).elim⟩
  · have hlm : len ≤ m := by rw [hmm]; split <;> omega
    have each : ∀ i, i < len → ∃ q : α × List Value, w.cells? base (a.add (i * d.sz)) d.sz = some q.2 ∧ d.K w q.1 q.2 ∧ good q.1 := fun i hi => by
      obtain ⟨cs', h1, h2⟩ := hx i (by omega)
      obtain ⟨x, hk, hg⟩ := ho _ _ _ h2
      rw [hce] at h1
      exact ⟨(x, cs'), h1, hk, hg⟩
    obtain ⟨qs, hql, hq⟩ := pick_list len each
    refine ⟨qs.map (·.1), ⟨some a, cap, by simp [hql], by simp [hql]; omega, ?_⟩, by simp only [List.length_map, hql]; unfold maxLen at hm; omega, ?_⟩
    · refine ⟨rfl, by simp only [List.length_map, hql]; unfold maxLen at hm; omega, fun _ => ⟨a, rfl, fun j p hp => ?_⟩⟩
      rw [List.getElem?_map] at hp
      obtain ⟨q, hqj, rfl⟩ := Option.map_eq_some_iff.1 hp
      obtain ⟨h1, h2, _⟩ := hq j q hqj
      obtain ⟨_, h4, h5⟩ := World.cells?_some h1
      refine ⟨q.2, h4, h2, fun i u hu => ?_⟩
      have hi : i < d.sz := by have := (List.getElem?_eq_some_iff.1 hu).1; omega
      have h6 := h5 i hi
      rw [add_add] at h6
      rw [h6, hu]
    · intro x hx'
      obtain ⟨q, hq', rfl⟩ := List.mem_map.1 hx'
      obtain ⟨i, hi⟩ := List.getElem?_of_mem hq'
      exact (hq i q hi).2.2
end
end Go.Proofs.Ytconaifcjnpabaa.P

namespace Go.Proofs.Ytconaifcjnpabaa.P
open Go.RowKit Go.Proofs.YtconaifcjnpabaaW.PrintWords Go.Proofs.YtconaifcjnpabaaW.PrintMore Go.ChangeShapes Go.WideShapes
set_option linter.unusedVariables false
def good33 (x : S33) : Prop := (Lit.int .u32 x.f0).wf = true ∧ (Lit.int .u32 x.f1).wf = true
theorem opens_T33 {H : Type} {enc : TypeId × Value → H} {w : World} {base : Nat} {spare : Nat → Bool} {held : Bool} : Opens enc Try.prog w base spare held k33 33 good33 := by
  intro fuel cs y h
  obtain ⟨xs, n, _, _, hlen, hxl, hf⟩ := DataW.trod_struct Try.underlying33 h
  have hcs : cs.length = 2 := hlen.trans (by kernel_rfl)
  have h0 := hf 0 _ rfl
  obtain ⟨y0, e0⟩ : ∃ y_, xs[0]? = some y_ := ⟨_, List.getElem?_eq_getElem (by rw [hxl]; decide)⟩
  rw [e0] at h0
  have q0 : DataW.trod enc Try.prog w base spare held n 29 ((cs.drop 0).take 1) = some y0 := (congrArg (fun z => DataW.trod enc Try.prog w base spare held n 29 ((cs.drop 0).take z)) (show 1 = Try.prog.cellsOf 29 from by kernel_rfl)).trans h0
  obtain ⟨x0, k0_, g0⟩ := (opens_int Try.underlying29) _ _ _ q0
  have h1 := hf 1 _ rfl
  obtain ⟨y1, e1⟩ : ∃ y_, xs[1]? = some y_ := ⟨_, List.getElem?_eq_getElem (by rw [hxl]; decide)⟩
  rw [e1] at h1
  have q1 : DataW.trod enc Try.prog w base spare held n 29 ((cs.drop 1).take 1) = some y1 := (congrArg (fun z => DataW.trod enc Try.prog w base spare held n 29 ((cs.drop 1).take z)) (show 1 = Try.prog.cellsOf 29 from by kernel_rfl)).trans h1
  obtain ⟨x1, k1_, g1⟩ := (opens_int Try.underlying29) _ _ _ q1
  have s0 : cs.drop 0 = (cs.drop 0).take 1 ++ cs.drop 1 := by have e_ := (List.take_append_drop 1 (cs.drop 0)).symm; rwa [List.drop_drop] at e_
  have s1 : cs.drop 1 = (cs.drop 1).take 1 := (List.take_of_length_le (by rw [List.length_drop, hcs]; decide)).symm
  exact ⟨⟨x0, x1⟩, ⟨(cs.drop 0).take 1, cs.drop 1, (show cs = _ from s0), k0_, (by rw [s1]; exact k1_)⟩, g0, g1⟩
end Go.Proofs.Ytconaifcjnpabaa.P

namespace Go.Proofs.Ytconaifcjnpabaa.P
open Go.RowKit Go.Proofs.YtconaifcjnpabaaW.PrintWords Go.Proofs.YtconaifcjnpabaaW.PrintLast Go.Proofs.YtconaifcjnpabaaW.PrintMore
set_option linter.unusedVariables false

/-- What the closure of span.In says of a span. -/
def inSpan (n : Int) (s : S33) : Bool := decide (s.f0 ≤ n) && decide (n ≤ s.f1)
def span_In.f (l0 : List S33) (a1 : Int) : Option Bool := if l0.length ≤ 9223372036854775807 then some (l0.any (inSpan a1)) else none

theorem in_closure (n : Int) (B : Nat) (x : S33) (W : World) (hB : B < W.heap.size) (hc : W.cell? ⟨B, 0, none⟩ = some (.int .u32 n)) :
    Calls Try.prog 30 #[.agg #[.int .u32 x.f0, .int .u32 x.f1], .pointer (some ⟨B, 0, none⟩)] W fun e w' => e = .returned (.bool (inSpan n x)) ∧ Below W.heap.size W w' := by
  have hu33 := Try.underlying33
  have hne : B ≠ W.heap.size := by omega
  unfold inSpan
  by_cases h1 : x.f0 ≤ n
  · have d1 : decide (x.f0 ≤ n) = true := decide_eq_true h1
    go_enter Try.func30, Try.ntmps30
    go_wp2
    all_goals (go_ret; exact ⟨by simp_all, (Below.refl _ _).alloc (Nat.le_refl _) _⟩)
  · have d1 : decide (x.f0 ≤ n) = false := decide_eq_false h1
    go_enter Try.func30, Try.ntmps30
    go_wp2
    all_goals (go_ret; exact ⟨by simp_all, (Below.refl _ _).alloc (Nat.le_refl _) _⟩)

/-- What IndexFunc's loop has come to. -/
def NoneTill (p : S33 → Bool) (l : List S33) (k : Nat) : Prop := ∀ j, j < k → p (l.getD j z33) = false
theorem any_of_none (p : S33 → Bool) (l : List S33) (h : NoneTill p l l.length) : l.any p = false := by
  rw [List.any_eq_false]
  intro x hx
  obtain ⟨j, hj, rfl⟩ := List.getElem_of_mem hx
  have := h j hj
  rw [List.getD_eq_getElem?_getD, List.getElem?_eq_getElem hj] at this
  simpa using this
theorem any_of_some (p : S33 → Bool) (l : List S33) (k : Nat) (hk : k < l.length) (h : p (l.getD k z33) = true) : l.any p = true := by
  rw [List.any_eq_true]
  refine ⟨l[k], List.getElem_mem hk, ?_⟩
  rw [List.getD_eq_getElem?_getD, List.getElem?_eq_getElem hk] at h
  simpa using h
def IdxPost (p : S33 → Bool) (l : List S33) (w : World) (e : Ending) (w' : World) : Prop := ∃ i : Int, e = .returned (.int .i64 i) ∧ decide (i ≥ 0) = l.any p ∧ Below w.heap.size w w'

set_option maxHeartbeats 1000000 in
theorem in_index (n : Int) (B : Nat) (w : World) (hB : B < w.heap.size) (hcB : w.cell? ⟨B, 0, none⟩ = some (.int .u32 n)) (A0 : Option Addr) (c0 : Nat) (l0 : List (S33)) (hr0 : Kd.C k33 w A0 l0.length l0) (hl : l0.length ≤ 9223372036854775807) :
    Calls Try.prog 38 #[.slice A0 l0.length c0, .func (.func 30) #[] #[.pointer (some ⟨B, 0, none⟩)]] w (IdxPost (inSpan n) l0 w) := by
  have hu33 := Try.underlying33
  have HC := Go.Lib.hid hcB
  clear hcB
  have HR := Go.Lib.hid hr0
  clear hr0
  go_enter Try.func38, Try.ntmps38
  go_wp2
  go_loopw [8] (fun i wr => ∃ k : Nat, k ≤ l0.length ∧ i = .int .i64 k ∧ NoneTill (inSpan n) l0 k ∧ Below w.heap.size w wr) (fun i _ => l0.length - (intOf i).toNat)
  case atStart => exact ⟨0, Nat.zero_le _, rfl, fun j hj => absurd hj (Nat.not_lt_zero j), Below.refl _ _⟩
  case round =>
    obtain ⟨k, hk, rfl, hn, hb⟩ := hrel
    have HN := Go.Lib.hid hn
    clear hn
    have HBb := Go.Lib.hid hb
    clear hb
    by_cases hlt : k < l0.length
    · obtain ⟨ad, e0, h0, h1⟩ := at_T33 (Kd.C_below HR.out HBb.out) (k : Int) (by omega) (by omega)
      rw [Int.toNat_natCast] at h0 h1
      generalize hx : rd_T33 l0 (k : Int) = x at h0 h1
      have HX := Go.Lib.hid hx
      clear hx
      obtain rfl := e0
      have hBr : B < wr.heap.size := Nat.lt_of_lt_of_le hB HBb.out.size
      have hcr := (HBb.out.cell (p := ⟨B, 0, none⟩) hB).trans HC.out
      have hcl := in_closure n B x wr hBr hcr
      clear hcr
      have HCL := Go.Lib.hid hcl
      clear hcl
      by_cases hpx : inSpan n x = true
      · have HP := Go.Lib.hid hpx
        go_wp2_with (go_at_call 30; refine (HCL.out).mono ?_; rw [HP.out]; rintro e w' ⟨rfl, hb'⟩)
        clear hpx
        go_ret
        exact ⟨k, rfl, by rw [any_of_some (inSpan n) l0 k hlt (by have := HX.out; unfold rd_T33 at this; rw [Int.toNat_natCast] at this; rw [this]; exact HP.out)]; simp, HBb.out.trans (hb'.mono HBb.out.size)⟩
      · have hpx' : inSpan n x = false := by simpa using hpx
        clear hpx
        have HP := Go.Lib.hid hpx'
        go_wp2_with (go_at_call 30; refine (HCL.out).mono ?_; rw [HP.out]; rintro e w' ⟨rfl, hb'⟩)
        go_roundw
        case rel =>
          refine ⟨k + 1, by omega, by go_num, ?_, HBb.out.trans (hb'.mono HBb.out.size)⟩
          intro j hj
          by_cases e : j = k
          · subst e
            have := HX.out
            unfold rd_T33 at this
            rw [Int.toNat_natCast] at this
            rw [this]
            exact HP.out
          · exact HN.out j (by omega)
        case measure => simp [intOf]; omega
    · go_wp2
      go_ret
      exact ⟨-1, rfl, by rw [any_of_none (inSpan n) l0 (by have hkl : k = l0.length := (by omega); subst hkl; exact HN.out)]; simp, HBb.out⟩

theorem in_contains (n : Int) (B : Nat) (w : World) (hB : B < w.heap.size) (hcB : w.cell? ⟨B, 0, none⟩ = some (.int .u32 n)) (A0 : Option Addr) (c0 : Nat) (l0 : List (S33)) (hr0 : Kd.C k33 w A0 l0.length l0) (hl : l0.length ≤ 9223372036854775807) (r : Bool) (hr : l0.any (inSpan n) = r) :
    Calls Try.prog 29 #[.slice A0 l0.length c0, .func (.func 30) #[] #[.pointer (some ⟨B, 0, none⟩)]] w fun e w' => e = .returned (.bool r) ∧ Below w.heap.size w w' := by
  have HCON := Go.Lib.hid (in_index n B w hB hcB A0 c0 l0 hr0 hl)
  have HRr := Go.Lib.hid hr
  clear hr hr0 hcB
  go_enter Try.func29, Try.ntmps29
  go_wp2_with (first | (go_at_call 38; refine HCON.out.mono ?_; rintro e w' ⟨i, rfl, hi, hb⟩; have HI := Go.Lib.hid (hi.trans HRr.out); clear hi))
  go_ret
  exact ⟨by rw [← HI.out]; rfl, hb⟩

theorem span_In.calls (A0 : Option Addr) (c0 : Nat) (l0 : List (S33)) (a1 : Int) (r : Bool) (w : World) (hr0 : Kd.C k33 w A0 l0.length l0) (hc0 : l0.length ≤ c0) (h : span_In.f l0 a1 = some r) :
    Calls Try.prog 16 #[.slice A0 l0.length c0, .int .u32 a1] w fun e w' => e = .returned (.bool r) ∧ Below w.heap.size w w' := by
  unfold span_In.f at h
  by_cases hl : l0.length ≤ 9223372036854775807
  · rw [if_pos hl] at h
    have hr := Option.some.inj h
    clear h
    have HCON := Go.Lib.hid (in_contains a1 w.heap.size (w.alloc (.cells #[.int .u32 a1] 29)) (by simp) (by simp) A0 c0 l0 (Kd.C_below hr0 (below_alloc (Below.refl _ _) _)) hl r hr)
    clear hr hr0
    go_enter Try.func16, Try.ntmps16
    go_wp2_with (first | (go_at_call 29; refine HCON.out.mono ?_; rintro e w' ⟨rfl, hb⟩))
    go_ret
    exact ⟨rfl, (below_alloc (Below.refl _ _) _).trans (hb.mono (by simp))⟩
  · rw [if_neg hl] at h
    exact absurd h (by simp)
end Go.Proofs.Ytconaifcjnpabaa.P

namespace Go.Proofs.Ytconaifcjnpabaa.P
open Go.RowKit Go.Proofs.YtconaifcjnpabaaW.PrintWords Go.Proofs.YtconaifcjnpabaaW.PrintMore
set_option linter.unusedVariables false
/-! Sets of numbers as spans, in plain Lean. -/

def InS (l : List S33) (n : Int) : Bool := l.any (inSpan n)
theorem inSpan_iff (n : Int) (s : S33) : inSpan n s = true ↔ s.f0 ≤ n ∧ n ≤ s.f1 := by simp [inSpan]
theorem InS_iff (l : List S33) (n : Int) : InS l n = true ↔ ∃ s ∈ l, s.f0 ≤ n ∧ n ≤ s.f1 := by
  unfold InS
  rw [List.any_eq_true]
  simp only [inSpan_iff]
theorem InS_nil (n : Int) : InS [] n = false := rfl
theorem InS_cons (s : S33) (l : List S33) (n : Int) : InS (s :: l) n = (inSpan n s || InS l n) := rfl
theorem InS_append (a b : List S33) (n : Int) : InS (a ++ b) n = (InS a n || InS b n) := by unfold InS; rw [List.any_append]
def Ok (s : S33) : Prop := 0 ≤ s.f0 ∧ s.f0 ≤ s.f1 ∧ s.f1 ≤ 4294967295
def Rng (l : List S33) : Prop := ∀ s ∈ l, 0 ≤ s.f0 ∧ s.f0 ≤ 4294967295 ∧ 0 ≤ s.f1 ∧ s.f1 ≤ 4294967295
/-- A set's one form. -/
def NF (l : List S33) : Prop := (∀ s ∈ l, Ok s) ∧ l.Pairwise (fun a b => a.f1 + 1 < b.f0)
theorem NF_nil : NF [] := ⟨fun _ h => (List.not_mem_nil h).elim, List.Pairwise.nil⟩
theorem NF_cons {s : S33} {l : List S33} : NF (s :: l) ↔ Ok s ∧ (∀ x ∈ l, s.f1 + 1 < x.f0) ∧ NF l := by
  unfold NF
  rw [List.pairwise_cons]
  constructor
  · rintro ⟨h1, h2, h3⟩
    exact ⟨h1 s List.mem_cons_self, h2, fun x hx => h1 x (List.mem_cons_of_mem _ hx), h3⟩
  · rintro ⟨h1, h2, h3, h4⟩
    refine ⟨fun x hx => ?_, h2, h4⟩
    rcases List.mem_cons.1 hx with rfl | hx
    · exact h1
    · exact h3 x hx
theorem NF_snoc {s : S33} {l : List S33} : NF (l ++ [s]) ↔ NF l ∧ Ok s ∧ ∀ x ∈ l, x.f1 + 1 < s.f0 := by
  unfold NF
  rw [List.pairwise_append]
  constructor
  · rintro ⟨h1, h2, h3, h4⟩
    exact ⟨⟨fun x hx => h1 x (List.mem_append_left _ hx), h2⟩, h1 s (List.mem_append_right _ List.mem_cons_self), fun x hx => h4 x hx s List.mem_cons_self⟩
  · rintro ⟨⟨h1, h2⟩, h3, h4⟩
    refine ⟨fun x hx => ?_, h2, List.pairwise_singleton _ _, fun a ha b hb => ?_⟩
    · rcases List.mem_append.1 hx with hx | hx
      · exact h1 x hx
      · rw [List.mem_singleton.1 hx]; exact h3
    · rw [List.mem_singleton.1 hb]; exact h4 a ha
theorem NF_Rng {l : List S33} (h : NF l) : Rng l := fun s hs => by
  have h1 : Ok s := h.1 s hs
  unfold Ok at h1
  omega

theorem nf_head {x y : S33} {a b : List S33} (ha : NF (x :: a)) (hb : NF (y :: b)) (h : ∀ n, InS (x :: a) n = InS (y :: b) n) : x.f0 ≥ y.f0 := by
  obtain ⟨hx, hxa, ha'⟩ := NF_cons.1 ha
  obtain ⟨hy, hyb, hb'⟩ := NF_cons.1 hb
  have h1 : InS (x :: a) x.f0 = true := (InS_iff _ _).2 ⟨x, List.mem_cons_self, Int.le_refl _, hx.2.1⟩
  rw [h] at h1
  obtain ⟨s, hs, hs0, hs1⟩ := (InS_iff _ _).1 h1
  rcases List.mem_cons.1 hs with rfl | hs
  · exact hs0
  · have h2 := hyb s hs
    unfold Ok at hy
    omega
theorem nf_tail {x : S33} {y : S33} {a b : List S33} (ha : NF (x :: a)) (hb : NF (y :: b)) (h : ∀ n, InS (x :: a) n = InS (y :: b) n) (h0 : x.f0 = y.f0) : ¬ x.f1 < y.f1 := by
  intro hlt
  obtain ⟨hx, hxa, ha'⟩ := NF_cons.1 ha
  unfold Ok at hx
  have h1 : InS (y :: b) (x.f1 + 1) = true := (InS_iff _ _).2 ⟨y, List.mem_cons_self, by omega, by omega⟩
  rw [← h] at h1
  obtain ⟨s, hs, hs0, hs1⟩ := (InS_iff _ _).1 h1
  rcases List.mem_cons.1 hs with rfl | hs
  · omega
  · have h2 := hxa s hs
    omega
theorem nf_ext : ∀ {a b : List S33}, NF a → NF b → (∀ n, InS a n = InS b n) → a = b
  | [], [], _, _, _ => rfl
  | [], y :: b, _, hb, h => by
    obtain ⟨hy, _, _⟩ := NF_cons.1 hb
    have h1 : InS (y :: b) y.f0 = true := (InS_iff _ _).2 ⟨y, List.mem_cons_self, Int.le_refl _, hy.2.1⟩
    rw [← h] at h1
    exact absurd h1 (by simp [InS])
  | x :: a, [], ha, _, h => by
    obtain ⟨hx, _, _⟩ := NF_cons.1 ha
    have h1 : InS (x :: a) x.f0 = true := (InS_iff _ _).2 ⟨x, List.mem_cons_self, Int.le_refl _, hx.2.1⟩
    rw [h] at h1
    exact absurd h1 (by simp [InS])
  | x :: a, y :: b, ha, hb, h => by
    have h1 := nf_head ha hb h
    have h2 := nf_head hb ha (fun n => (h n).symm)
    have e0 : x.f0 = y.f0 := by omega
    have h3 := nf_tail ha hb h e0
    have h4 := nf_tail hb ha (fun n => (h n).symm) e0.symm
    have e1 : x.f1 = y.f1 := by omega
    have exy : x = y := by cases x; cases y; simp_all
    subst exy
    obtain ⟨hx, hxa, ha'⟩ := NF_cons.1 ha
    obtain ⟨_, hxb, hb'⟩ := NF_cons.1 hb
    unfold Ok at hx
    have ht : a = b := nf_ext ha' hb' (fun n => by
      have hn := h n
      rw [InS_cons, InS_cons] at hn
      by_cases hin : inSpan n x = true
      · rw [inSpan_iff] at hin
        have q : ∀ l : List S33, (∀ z ∈ l, x.f1 + 1 < z.f0) → InS l n = false := fun l hl => by
          cases hq : InS l n with
          | false => rfl
          | true =>
            obtain ⟨s, hs, hs0, _⟩ := (InS_iff _ _).1 hq
            have := hl s hs
            omega
        rw [q a hxa, q b hxb]
      · rw [Bool.not_eq_true] at hin
        simpa [hin] using hn)
    rw [ht]

/-! ### Norm -/
def mergeStep (out : List S33) (s : S33) : List S33 :=
  match out.getLast? with
  | none => [s]
  | some x => if x.f1 = 4294967295 ∨ s.f0 ≤ x.f1 + 1 then out.dropLast ++ [⟨x.f0, mx x.f1 s.f1⟩] else out ++ [s]
def mergeAll : List S33 → List S33 → List S33
  | out, [] => out
  | out, s :: r => mergeAll (mergeStep out s) r
theorem mergeStep_nil (s : S33) : mergeStep [] s = [s] := rfl
theorem mergeStep_snoc (p : List S33) (x s : S33) : mergeStep (p ++ [x]) s = if x.f1 = 4294967295 ∨ s.f0 ≤ x.f1 + 1 then p ++ [⟨x.f0, mx x.f1 s.f1⟩] else (p ++ [x]) ++ [s] := by
  unfold mergeStep
  simp
theorem mergeStep_nf {out : List S33} {s : S33} (ho : NF out) (hs : Ok s) (hle : ∀ x ∈ out, x.f0 ≤ s.f0) :
    NF (mergeStep out s) ∧ (∀ n, InS (mergeStep out s) n = (InS out n || inSpan n s)) ∧ ∀ x ∈ mergeStep out s, x.f0 ≤ s.f0 := by
  rcases List.eq_nil_or_concat out with rfl | ⟨p, x, rfl⟩
  · rw [mergeStep_nil]
    refine ⟨NF_cons.2 ⟨hs, fun _ h => (List.not_mem_nil h).elim, NF_nil⟩, fun n => by simp [InS], fun x hx => by rw [List.mem_singleton.1 hx]; exact Int.le_refl _⟩
  · simp only [List.concat_eq_append] at *
    rw [mergeStep_snoc]
    obtain ⟨hp, hx, hpx⟩ := NF_snoc.1 ho
    have hxs := hle x (by simp)
    have hx' := hx
    have hs' := hs
    unfold Ok at hx' hs'
    by_cases hc : x.f1 = 4294967295 ∨ s.f0 ≤ x.f1 + 1
    · rw [if_pos hc]
      have hm : mx x.f1 s.f1 = x.f1 ∧ s.f1 ≤ x.f1 ∨ mx x.f1 s.f1 = s.f1 ∧ x.f1 < s.f1 := by unfold mx; split <;> omega
      refine ⟨NF_snoc.2 ⟨hp, by show Ok (S33.mk x.f0 (mx x.f1 s.f1)); unfold Ok; rcases hm with hm | hm <;> simp only [hm.1] <;> omega, hpx⟩, fun n => ?_, fun z hz => ?_⟩
      · rw [InS_append, InS_append, Bool.or_assoc]
        congr 1
        simp only [InS, List.any_cons, List.any_nil, Bool.or_false]
        rw [Bool.eq_iff_iff, Bool.or_eq_true, inSpan_iff, inSpan_iff, inSpan_iff]
        rcases hm with hm | hm <;> simp only [hm.1] <;> omega
      · rcases List.mem_append.1 hz with hz | hz
        · exact hle z (List.mem_append_left _ hz)
        · rw [List.mem_singleton.1 hz]; exact hxs
    · rw [if_neg hc]
      rw [not_or] at hc
      refine ⟨NF_snoc.2 ⟨ho, hs, fun z hz => ?_⟩, fun n => by rw [InS_append]; simp [InS], fun z hz => ?_⟩
      · rcases List.mem_append.1 hz with hz | hz
        · have h1 := hpx z hz
          have h2 := hp.1 z hz
          unfold Ok at h2
          omega
        · rw [List.mem_singleton.1 hz]; omega
      · rcases List.mem_append.1 hz with hz | hz
        · exact hle z hz
        · rw [List.mem_singleton.1 hz]; exact Int.le_refl _
theorem mergeAll_nf : ∀ (t out : List S33), NF out → (∀ s ∈ t, Ok s) → t.Pairwise (fun a b => a.f0 ≤ b.f0) → (∀ x ∈ out, ∀ s ∈ t, x.f0 ≤ s.f0) →
    NF (mergeAll out t) ∧ ∀ n, InS (mergeAll out t) n = (InS out n || InS t n)
  | [], out, ho, _, _, _ => ⟨ho, fun n => by simp [mergeAll, InS]⟩
  | s :: r, out, ho, ht, hp, hle => by
    rw [List.pairwise_cons] at hp
    obtain ⟨h1, h2, h3⟩ := mergeStep_nf ho (ht s List.mem_cons_self) (fun x hx => hle x hx s List.mem_cons_self)
    obtain ⟨h4, h5⟩ := mergeAll_nf r (mergeStep out s) h1 (fun x hx => ht x (List.mem_cons_of_mem _ hx)) hp.2 (fun x hx y hy => Int.le_trans (h3 x hx) (hp.1 y hy))
    refine ⟨h4, fun n => ?_⟩
    rw [mergeAll, h5, h2, InS_cons, Bool.or_assoc]
/-- A set's one form, in plain Lean. -/
def norm (l : List S33) : List S33 := mergeAll [] ((l.filter (fun s => decide (s.f0 ≤ s.f1))).mergeSort (fun a b => decide (a.f0 ≤ b.f0)))

/-! ### Not -/
def notL : Int → List S33 → List S33
  | f, [] => [⟨f, 4294967295⟩]
  | f, s :: r => (if s.f0 > f then [⟨f, s.f0 - 1⟩] else []) ++ (if s.f1 = 4294967295 then [] else notL (s.f1 + 1) r)
theorem notL_nf : ∀ (l : List S33) (f : Int), 0 ≤ f → f ≤ 4294967295 → NF l → (∀ s ∈ l, f ≤ s.f0) → NF (notL f l) ∧ (∀ x ∈ notL f l, f ≤ x.f0) ∧ ∀ n, InS (notL f l) n = (decide (f ≤ n) && decide (n ≤ 4294967295) && !InS l n)
  | [], f, h0, h1, _, _ => by
    refine ⟨NF_cons.2 ⟨⟨h0, h1, Int.le_refl _⟩, fun _ h => (List.not_mem_nil h).elim, NF_nil⟩, fun x hx => by rw [List.mem_singleton.1 hx]; exact Int.le_refl _, fun n => by simp [notL, InS, inSpan]⟩
  | s :: r, f, h0, h1, hl, hf => by
    obtain ⟨hs, hsr, hr⟩ := NF_cons.1 hl
    have hfs := hf s List.mem_cons_self
    unfold Ok at hs
    by_cases hM : s.f1 = 4294967295
    · have hrn : r = [] := by
        cases r with
        | nil => rfl
        | cons z r =>
          have h2 := hsr z List.mem_cons_self
          have h3 := (NF_cons.1 hr).1
          unfold Ok at h3
          omega
      subst hrn
      simp only [notL, if_pos hM, List.append_nil]
      by_cases hg : s.f0 > f
      · rw [if_pos hg]
        refine ⟨NF_cons.2 ⟨⟨h0, by show f ≤ s.f0 - 1; omega, by show s.f0 - 1 ≤ 4294967295; omega⟩, fun _ h => (List.not_mem_nil h).elim, NF_nil⟩, fun x hx => by rw [List.mem_singleton.1 hx]; exact Int.le_refl _, fun n => ?_⟩
        simp only [InS, List.any_cons, List.any_nil, Bool.or_false]
        rw [Bool.eq_iff_iff]
        simp only [inSpan, Bool.and_eq_true, decide_eq_true_eq, Bool.not_eq_true', Bool.and_eq_false_iff, decide_eq_false_iff_not]
        omega
      · rw [if_neg hg]
        refine ⟨NF_nil, fun _ h => (List.not_mem_nil h).elim, fun n => ?_⟩
        simp only [InS, List.any_cons, List.any_nil, Bool.or_false]
        symm
        rw [Bool.eq_false_iff]
        simp only [ne_eq, inSpan, Bool.and_eq_true, decide_eq_true_eq, Bool.not_eq_true', Bool.and_eq_false_iff, decide_eq_false_iff_not]
        omega
    · obtain ⟨h2, h3, h4⟩ := notL_nf r (s.f1 + 1) (by omega) (by omega) hr (fun z hz => by have := hsr z hz; omega)
      simp only [notL, if_neg hM]
      have hin : ∀ n, InS r n = true → s.f1 + 1 < n := fun n hn => by
        obtain ⟨z, hz, hz0, _⟩ := (InS_iff _ _).1 hn
        have := hsr z hz
        omega
      have key : ∀ n, (decide (f ≤ n) && decide (n ≤ 4294967295) && !InS (s :: r) n) = ((decide (f ≤ n) && decide (n < s.f0)) || (decide (s.f1 + 1 ≤ n) && decide (n ≤ 4294967295) && !InS r n)) := fun n => by
        rw [InS_cons]
        have h5 := hin n
        cases hq : InS r n with
        | true =>
          have := h5 hq
          simp [inSpan]
          omega
        | false =>
          rw [Bool.eq_iff_iff]
          simp only [inSpan, Bool.or_false, Bool.not_false, Bool.and_true, Bool.or_eq_true, Bool.and_eq_true, decide_eq_true_eq, Bool.not_eq_true', Bool.and_eq_false_iff, decide_eq_false_iff_not]
          omega
      by_cases hg : s.f0 > f
      · rw [if_pos hg, List.singleton_append]
        refine ⟨NF_cons.2 ⟨⟨h0, by show f ≤ s.f0 - 1; omega, by show s.f0 - 1 ≤ 4294967295; omega⟩, fun x hx => by have := h3 x hx; show s.f0 - 1 + 1 < x.f0; omega, h2⟩, fun x hx => ?_, fun n => ?_⟩
        · rcases List.mem_cons.1 hx with rfl | hx
          · exact Int.le_refl _
          · have := h3 x hx; omega
        · rw [key, InS_cons, h4]
          congr 1
          rw [Bool.eq_iff_iff, inSpan_iff, Bool.and_eq_true, decide_eq_true_eq, decide_eq_true_eq]
          show f ≤ n ∧ n ≤ s.f0 - 1 ↔ _
          omega
      · rw [if_neg hg, List.nil_append]
        refine ⟨h2, fun x hx => by have := h3 x hx; omega, fun n => ?_⟩
        rw [key, h4]
        have : (decide (f ≤ n) && decide (n < s.f0)) = false := by
          rw [Bool.eq_false_iff]
          simp only [ne_eq, Bool.and_eq_true, decide_eq_true_eq]
          omega
        rw [this, Bool.false_or]
end Go.Proofs.Ytconaifcjnpabaa.P

namespace Go.Proofs.Ytconaifcjnpabaa.P
open Go.RowKit Go.Proofs.YtconaifcjnpabaaW.PrintWords Go.Proofs.YtconaifcjnpabaaW.PrintMore
set_option linter.unusedVariables false
/-! Cuts, and sets by pieces. -/
def Rising (l : List Int) : Prop := l.Pairwise (· < ·)
def ins (n : Int) (l : List Int) : List Int :=
  match l.dropWhile (fun a => decide (a < n)) with
  | [] => l ++ [n]
  | a :: r => if a = n then l else l.takeWhile (fun a => decide (a < n)) ++ n :: (a :: r)
theorem ins_split (n : Int) : ∀ l : List Int, l = l.takeWhile (fun a => decide (a < n)) ++ l.dropWhile (fun a => decide (a < n)) := fun l => List.takeWhile_append_dropWhile.symm
theorem tw_lt (n : Int) (l : List Int) : ∀ x ∈ l.takeWhile (fun a => decide (a < n)), x < n := by
  induction l with
  | nil => intro x hx; simp at hx
  | cons a r ih =>
    intro x hx
    rw [List.takeWhile_cons] at hx
    split at hx
    · rename_i h
      rcases List.mem_cons.1 hx with rfl | hx
      · simpa using h
      · exact ih x hx
    · simp at hx
theorem dw_head (n : Int) (l : List Int) (a : Int) (r : List Int) (h : l.dropWhile (fun a => decide (a < n)) = a :: r) : n ≤ a := by
  induction l with
  | nil => simp at h
  | cons b t ih =>
    rw [List.dropWhile_cons] at h
    split at h
    · exact ih h
    · rename_i hb
      obtain ⟨rfl, rfl⟩ := List.cons.inj h
      have : ¬ b < n := by simpa using hb
      omega
theorem mem_ins (n : Int) (l : List Int) (x : Int) : x ∈ ins n l ↔ x = n ∨ x ∈ l := by
  unfold ins
  split
  · simp [or_comm]
  · rename_i a r h
    have hs := ins_split n l
    rw [h] at hs
    split
    · rename_i ha
      subst ha
      constructor
      · exact .inr
      · rintro (rfl | hx)
        · rw [hs]; simp
        · exact hx
    · generalize l.takeWhile (fun a => decide (a < n)) = p at hs
      subst hs
      simp only [List.mem_append, List.mem_cons]
      constructor
      · rintro (h1 | h1 | h1 | h1) <;> simp [h1]
      · rintro (h1 | h1 | h1 | h1) <;> simp [h1]
theorem rising_ins (n : Int) (l : List Int) (hl : Rising l) : Rising (ins n l) := by
  unfold ins
  have hs := ins_split n l
  have ht := tw_lt n l
  split
  · rename_i h
    rw [h, List.append_nil] at hs
    unfold Rising
    rw [List.pairwise_append]
    refine ⟨hl, List.pairwise_singleton _ _, fun a ha b hb => ?_⟩
    rw [List.mem_singleton.1 hb]
    exact ht a (hs ▸ ha)
  · rename_i a r h
    have ha := dw_head n l a r h
    rw [h] at hs
    split
    · exact hl
    · rename_i hne
      generalize l.takeWhile (fun a => decide (a < n)) = p at hs ht
      subst hs
      unfold Rising at hl ⊢
      rw [List.pairwise_append] at hl ⊢
      obtain ⟨h1, h2, h3⟩ := hl
      refine ⟨h1, ?_, fun x hx y hy => ?_⟩
      · rw [List.pairwise_cons]
        refine ⟨fun y hy => ?_, h2⟩
        rw [List.pairwise_cons] at h2
        rcases List.mem_cons.1 hy with rfl | hy
        · omega
        · have := h2.1 y hy; omega
      · rcases List.mem_cons.1 hy with rfl | hy
        · exact ht x hx
        · exact h3 x hx y hy
theorem length_ins (n : Int) (l : List Int) : (ins n l).length ≤ l.length + 1 := by
  unfold ins
  split
  · simp
  · rename_i a r h
    have hs := congrArg List.length (ins_split n l)
    rw [h] at hs
    split
    · omega
    · simp only [List.length_append, List.length_cons] at hs ⊢
      omega
/-- The cuts of one set, put to others. -/
def cutS : List Int → List S33 → List Int
  | b, [] => b
  | b, s :: r => if s.f0 > s.f1 then cutS b r else if s.f1 < 4294967295 then cutS (ins (s.f1 + 1) (ins s.f0 b)) r else cutS (ins s.f0 b) r
def cutL : List Int → List (List S33) → List Int
  | b, [] => b
  | b, l :: r => cutL (cutS b l) r
def IsCut (l : List S33) (x : Int) : Prop := ∃ s ∈ l, s.f0 ≤ s.f1 ∧ (x = s.f0 ∨ s.f1 < 4294967295 ∧ x = s.f1 + 1)
theorem IsCut_cons (s : S33) (l : List S33) (x : Int) : IsCut (s :: l) x ↔ (s.f0 ≤ s.f1 ∧ (x = s.f0 ∨ s.f1 < 4294967295 ∧ x = s.f1 + 1)) ∨ IsCut l x := by
  unfold IsCut
  constructor
  · rintro ⟨z, hz, h⟩
    rcases List.mem_cons.1 hz with rfl | hz
    · exact .inl h
    · exact .inr ⟨z, hz, h⟩
  · rintro (h | ⟨z, hz, h⟩)
    · exact ⟨s, List.mem_cons_self, h⟩
    · exact ⟨z, List.mem_cons_of_mem _ hz, h⟩
theorem cutS_spec : ∀ (l : List S33) (b : List Int), Rising b → Rising (cutS b l) ∧ (∀ x, x ∈ cutS b l ↔ x ∈ b ∨ IsCut l x) ∧ (cutS b l).length ≤ b.length + 2 * l.length
  | [], b, hb => ⟨hb, fun x => by simp [cutS, IsCut], by simp [cutS]⟩
  | s :: r, b, hb => by
    unfold cutS
    by_cases h1 : s.f0 > s.f1
    · rw [if_pos h1]
      obtain ⟨q1, q2, q3⟩ := cutS_spec r b hb
      refine ⟨q1, fun x => ?_, by simp only [List.length_cons]; omega⟩
      rw [q2, IsCut_cons]
      have : ¬ (s.f0 ≤ s.f1) := by omega
      simp [this]
    · rw [if_neg h1]
      have h1' : s.f0 ≤ s.f1 := by omega
      have l1 := length_ins s.f0 b
      by_cases h2 : s.f1 < 4294967295
      · rw [if_pos h2]
        have l2 := length_ins (s.f1 + 1) (ins s.f0 b)
        obtain ⟨q1, q2, q3⟩ := cutS_spec r _ (rising_ins (s.f1 + 1) _ (rising_ins s.f0 b hb))
        refine ⟨q1, fun x => ?_, by simp only [List.length_cons]; omega⟩
        rw [q2, IsCut_cons, mem_ins, mem_ins]
        constructor
        · rintro ((h | h | h) | h)
          · exact .inr (.inl ⟨h1', .inr ⟨h2, h⟩⟩)
          · exact .inr (.inl ⟨h1', .inl h⟩)
          · exact .inl h
          · exact .inr (.inr h)
        · rintro (h | ⟨_, h | ⟨_, h⟩⟩ | h)
          · exact .inl (.inr (.inr h))
          · exact .inl (.inr (.inl h))
          · exact .inl (.inl h)
          · exact .inr h
      · rw [if_neg h2]
        obtain ⟨q1, q2, q3⟩ := cutS_spec r _ (rising_ins s.f0 b hb)
        refine ⟨q1, fun x => ?_, by simp only [List.length_cons]; omega⟩
        rw [q2, IsCut_cons, mem_ins]
        constructor
        · rintro ((h | h) | h)
          · exact .inr (.inl ⟨h1', .inl h⟩)
          · exact .inl h
          · exact .inr (.inr h)
        · rintro (h | ⟨_, h | ⟨h, _⟩⟩ | h)
          · exact .inl (.inr h)
          · exact .inl (.inl h)
          · exact absurd h h2
          · exact .inr h
theorem cutL_spec : ∀ (L : List (List S33)) (b : List Int), Rising b → Rising (cutL b L) ∧ (∀ x, x ∈ cutL b L ↔ x ∈ b ∨ ∃ l ∈ L, IsCut l x)
  | [], b, hb => ⟨hb, fun x => by simp [cutL]⟩
  | l :: r, b, hb => by
    obtain ⟨p1, p2, _⟩ := cutS_spec l b hb
    obtain ⟨q1, q2⟩ := cutL_spec r _ p1
    refine ⟨q1, fun x => ?_⟩
    rw [cutL, q2, p2]
    constructor
    · rintro ((h | h) | ⟨z, hz, h⟩)
      · exact .inl h
      · exact .inr ⟨l, List.mem_cons_self, h⟩
      · exact .inr ⟨z, List.mem_cons_of_mem _ hz, h⟩
    · rintro (h | ⟨z, hz, h⟩)
      · exact .inl (.inl h)
      · rcases List.mem_cons.1 hz with rfl | hz
        · exact .inl (.inr h)
        · exact .inr ⟨z, hz, h⟩
/-- Between two cuts a set has all numbers or none. -/
theorem in_at_cut (l : List S33) (c x : Int) (hr : Rng l) (hcx : c ≤ x) (hxm : x ≤ 4294967295) (h : ∀ z, IsCut l z → z ≤ x → z ≤ c) : InS l x = InS l c := by
  rw [Bool.eq_iff_iff, InS_iff, InS_iff]
  constructor
  · rintro ⟨s, hs, h0, h1⟩
    have h2 := h s.f0 ⟨s, hs, by omega, .inl rfl⟩ h0
    exact ⟨s, hs, h2, by omega⟩
  · rintro ⟨s, hs, h0, h1⟩
    refine ⟨s, hs, by omega, ?_⟩
    by_cases h3 : x ≤ s.f1
    · exact h3
    · have h4 := h (s.f1 + 1) ⟨s, hs, by omega, .inr ⟨?_, rfl⟩⟩ (by omega)
      · omega
      · by_cases h5 : s.f1 < 4294967295
        · exact h5
        · omega
/-- Pieces: where each begins, and whether it is asked for. -/
def pieceIn : List (Int × Bool) → Int → Bool
  | [], _ => false
  | (n, f) :: r, x => if x < n then false else match r with
    | [] => f && decide (x ≤ 4294967295)
    | (m, g) :: r' => if x < m then f else pieceIn ((m, g) :: r') x
def endOf : List (Int × Bool) → Int
  | [] => 4294967295
  | (m, _) :: _ => m - 1
def setEnd (out : List S33) (e : Int) : List S33 := match out.getLast? with | none => [] | some x => out.dropLast ++ [⟨x.f0, e⟩]
def fromL : Bool → List S33 → List (Int × Bool) → List S33
  | _, out, [] => out
  | prev, out, (n, f) :: r => if f then (if prev then fromL true (setEnd out (endOf r)) r else fromL true (out ++ [⟨n, endOf r⟩]) r) else fromL false out r
theorem endOf_ge (n : Int) (r : List (Int × Bool)) (hn : n ≤ 4294967295) (h : ∀ q ∈ r, n < q.1) : n ≤ endOf r := by
  cases r with
  | nil => exact hn
  | cons q r => have := h q List.mem_cons_self; obtain ⟨m, g⟩ := q; show n ≤ m - 1; omega
theorem endOf_le (r : List (Int × Bool)) (h : ∀ q ∈ r, q.1 ≤ 4294967295) : endOf r ≤ 4294967295 := by
  cases r with
  | nil => exact Int.le_refl _
  | cons q r => have := h q List.mem_cons_self; obtain ⟨m, g⟩ := q; show m - 1 ≤ 4294967295; omega
theorem pieceIn_lt (m : Int) (g : Bool) (r : List (Int × Bool)) (y : Int) (h : y < m) : pieceIn ((m, g) :: r) y = false := by
  unfold pieceIn
  rw [if_pos h]
theorem pieceIn_cons (n : Int) (f : Bool) (r : List (Int × Bool)) (y : Int) (h : ∀ q ∈ r, n < q.1) : pieceIn ((n, f) :: r) y = ((f && decide (n ≤ y) && decide (y ≤ endOf r)) || pieceIn r y) := by
  cases r with
  | nil =>
    simp only [pieceIn, endOf, Bool.or_false]
    by_cases h1 : y < n
    · have : ¬ n ≤ y := by omega
      simp [h1, this]
    · have : n ≤ y := by omega
      simp [h1, this]
      try rfl
  | cons q r =>
    obtain ⟨m, g⟩ := q
    have hm : n < m := h (m, g) List.mem_cons_self
    have he : endOf ((m, g) :: r) = m - 1 := rfl
    rw [he, pieceIn]
    by_cases h1 : y < n
    · have h2 : ¬ n ≤ y := by omega
      rw [if_pos h1, pieceIn_lt m g r y (by omega)]
      simp [h2]
    · have h2 : n ≤ y := by omega
      rw [if_neg h1]
      by_cases h3 : y < m
      · have h4 : y ≤ m - 1 := by omega
        rw [if_pos h3, pieceIn_lt m g r y h3]
        simp [h2, h4]
      · have h4 : ¬ y ≤ m - 1 := by omega
        rw [if_neg h3]
        simp [h4]
theorem setEnd_snoc (p : List S33) (x : S33) (e : Int) : setEnd (p ++ [x]) e = p ++ [⟨x.f0, e⟩] := by unfold setEnd; simp
theorem fromL_spec : ∀ (ps : List (Int × Bool)) (prev : Bool) (out : List S33), ps.Pairwise (fun a b => a.1 < b.1) → (∀ q ∈ ps, 0 ≤ q.1 ∧ q.1 ≤ 4294967295) → NF out →
    (prev = true → ∃ p x, out = p ++ [x] ∧ ∀ n f r, ps = (n, f) :: r → x.f1 + 1 = n) → (prev = false → ∀ x ∈ out, ∀ n f r, ps = (n, f) :: r → x.f1 + 1 < n) →
    NF (fromL prev out ps) ∧ ∀ y, InS (fromL prev out ps) y = (InS out y || pieceIn ps y)
  | [], prev, out, _, _, ho, _, _ => ⟨ho, fun y => by simp [fromL, pieceIn]⟩
  | (n, f) :: r, prev, out, hp, hr, ho, h1, h2 => by
    rw [List.pairwise_cons] at hp
    have hn := hr (n, f) List.mem_cons_self
    have hrr : ∀ q ∈ r, 0 ≤ q.1 ∧ q.1 ≤ 4294967295 := fun q hq => hr q (List.mem_cons_of_mem _ hq)
    have he1 := endOf_ge n r hn.2 hp.1
    have he2 := endOf_le r (fun q hq => (hrr q hq).2)
    have hnext : ∀ m g r', r = (m, g) :: r' → endOf r + 1 = m := fun m g r' h => by subst h; show m - 1 + 1 = m; omega
    have hm : ∀ m g r', r = (m, g) :: r' → n < m := fun m g r' h => hp.1 (m, g) (h ▸ List.mem_cons_self)
    have hpc := fun y => pieceIn_cons n f r y hp.1
    generalize hE : endOf r = e at he1 he2 hnext hpc
    cases f with
    | true =>
      cases prev with
      | true =>
        obtain ⟨p, x, rfl, hx⟩ := h1 rfl
        have hx := hx n true r rfl
        obtain ⟨q1, q2, q3⟩ := NF_snoc.1 ho
        unfold Ok at q2
        simp only [fromL, if_true, hE]
        rw [setEnd_snoc]
        obtain ⟨k1, k2⟩ := fromL_spec r true (p ++ [⟨x.f0, e⟩]) hp.2 hrr (NF_snoc.2 ⟨q1, ⟨q2.1, by show x.f0 ≤ e; omega, he2⟩, q3⟩) (fun _ => ⟨p, _, rfl, hnext⟩) (fun h => by cases h)
        refine ⟨k1, fun y => ?_⟩
        rw [k2, hpc, InS_append, InS_append, ← Bool.or_assoc]
        congr 1
        rw [Bool.or_assoc]
        congr 1
        simp only [InS, List.any_cons, List.any_nil, Bool.or_false, inSpan, Bool.true_and]
        rw [Bool.eq_iff_iff]
        simp only [Bool.or_eq_true, Bool.and_eq_true, decide_eq_true_eq]
        omega
      | false =>
        have h2 := fun x hx => h2 rfl x hx n true r rfl
        have hf : fromL false out ((n, true) :: r) = fromL true (out ++ [⟨n, e⟩]) r := by rw [fromL, hE]; rfl
        rw [hf]
        obtain ⟨k1, k2⟩ := fromL_spec r true (out ++ [⟨n, e⟩]) hp.2 hrr (NF_snoc.2 ⟨ho, ⟨hn.1, he1, he2⟩, h2⟩) (fun _ => ⟨out, _, rfl, hnext⟩) (fun h => by cases h)
        refine ⟨k1, fun y => ?_⟩
        rw [k2, hpc, InS_append, ← Bool.or_assoc]
        congr 2
        simp [InS, inSpan]
    | false =>
      have hf : fromL prev out ((n, false) :: r) = fromL false out r := by rw [fromL]; rfl
      rw [hf]
      obtain ⟨k1, k2⟩ := fromL_spec r false out hp.2 hrr ho (fun h => by cases h) (fun _ x hx m g r' hr' => by
        have hmm := hm m g r' hr'
        cases prev with
        | true =>
          obtain ⟨p, z, rfl, hz⟩ := h1 rfl
          have hz := hz n false r rfl
          obtain ⟨q1, q2, q3⟩ := NF_snoc.1 ho
          unfold Ok at q2
          rcases List.mem_append.1 hx with hx | hx
          · have := q3 x hx; omega
          · rw [List.mem_singleton.1 hx]; omega
        | false => have := h2 rfl x hx n false r rfl; omega)
      refine ⟨k1, fun y => ?_⟩
      rw [k2, hpc]
      simp
theorem pieceIn_at (g : Int → Bool) : ∀ (b : List Int) (n x : Int), Rising (n :: b) → n ≤ x → x ≤ 4294967295 →
    ∃ c ∈ n :: b, c ≤ x ∧ (∀ z ∈ n :: b, z ≤ x → z ≤ c) ∧ pieceIn ((n :: b).map (fun n => (n, g n))) x = g c
  | [], n, x, _, h0, h1 => ⟨n, List.mem_cons_self, h0, fun z hz _ => by rw [List.mem_singleton.1 hz]; exact Int.le_refl _, by
      have : ¬ x < n := by omega
      simp [pieceIn, this, h1]⟩
  | m :: b, n, x, hb, h0, h1 => by
    unfold Rising at hb
    rw [List.pairwise_cons] at hb
    have hnm := hb.1 m List.mem_cons_self
    have hx : ¬ x < n := by omega
    by_cases hxm : x < m
    · refine ⟨n, List.mem_cons_self, h0, fun z hz hzx => ?_, by simp [pieceIn, hx, hxm]⟩
      rcases List.mem_cons.1 hz with rfl | hz
      · exact Int.le_refl _
      · rcases List.mem_cons.1 hz with rfl | hz
        · omega
        · have := (List.pairwise_cons.1 hb.2).1 z hz; omega
    · obtain ⟨c, hc, c1, c2, c3⟩ := pieceIn_at g b m x hb.2 (by omega) h1
      refine ⟨c, List.mem_cons_of_mem _ hc, c1, fun z hz hzx => ?_, ?_⟩
      · rcases List.mem_cons.1 hz with rfl | hz
        · have := hb.1 c hc; omega
        · exact c2 z hz hzx
      · rw [← c3]
        simp [pieceIn, hx, hxm]
theorem pieceIn_out (g : Int → Bool) (x : Int) : ∀ (b : List Int), (∀ z ∈ b, 0 ≤ z ∧ z ≤ 4294967295) → Rising b → (x < 0 ∨ 4294967295 < x) → pieceIn (b.map (fun n => (n, g n))) x = false
  | [], _, _, _ => rfl
  | n :: b, h, hb, hx => by
    unfold Rising at hb
    rw [List.pairwise_cons] at hb
    have hn := h n List.mem_cons_self
    have hq : ∀ q ∈ b.map (fun n => (n, g n)), n < q.1 := fun q hq => by
      obtain ⟨z, hz, rfl⟩ := List.mem_map.1 hq
      exact hb.1 z hz
    have hq2 : ∀ q ∈ b.map (fun n => (n, g n)), q.1 ≤ 4294967295 := fun q hq => by
      obtain ⟨z, hz, rfl⟩ := List.mem_map.1 hq
      exact (h z (List.mem_cons_of_mem _ hz)).2
    rw [List.map_cons, pieceIn_cons n (g n) _ x hq, pieceIn_out g x b (fun z hz => h z (List.mem_cons_of_mem _ hz)) hb.2 hx, Bool.or_false]
    have he := endOf_le _ hq2
    rcases hx with hx | hx
    · have : ¬ n ≤ x := by omega
      simp [this]
    · have : ¬ x ≤ endOf (b.map (fun n => (n, g n))) := by omega
      simp [this]
/-- What the document's Set gives: the set's one form, by what is in the two. -/
theorem setL_spec (op : Bool → Bool → Bool) (a c : List S33) (ha : Rng a) (hc : Rng c) :
    NF (fromL false [] ((cutL [0] [a, c]).map (fun n => (n, op (InS a n) (InS c n))))) ∧
    ∀ x, InS (fromL false [] ((cutL [0] [a, c]).map (fun n => (n, op (InS a n) (InS c n))))) x = (decide (0 ≤ x) && decide (x ≤ 4294967295) && op (InS a x) (InS c x)) := by
  obtain ⟨hr, hm⟩ := cutL_spec [a, c] [0] (List.pairwise_singleton _ _)
  have hm' : ∀ x, x ∈ cutL [0] [a, c] ↔ x = 0 ∨ IsCut a x ∨ IsCut c x := fun x => by rw [hm]; simp
  have hrng : ∀ x ∈ cutL [0] [a, c], 0 ≤ x ∧ x ≤ 4294967295 := fun x hx => by
    rcases (hm' x).1 hx with rfl | ⟨s, hs, h1, h2⟩ | ⟨s, hs, h1, h2⟩
    · omega
    · have := ha s hs; omega
    · have := hc s hs; omega
  have h0 : (0 : Int) ∈ cutL [0] [a, c] := (hm' 0).2 (.inl rfl)
  generalize cutL [0] [a, c] = b at hr hm' hrng h0
  obtain ⟨k1, k2⟩ := fromL_spec (b.map (fun n => (n, op (InS a n) (InS c n)))) false [] (by
      rw [List.pairwise_map]
      exact hr) (fun q hq => by
      obtain ⟨z, hz, rfl⟩ := List.mem_map.1 hq
      exact hrng z hz) NF_nil (fun h => by cases h) (fun _ x hx => (List.not_mem_nil hx).elim)
  refine ⟨k1, fun x => ?_⟩
  rw [k2, InS_nil, Bool.false_or]
  by_cases hx : 0 ≤ x ∧ x ≤ 4294967295
  · have hd : (decide (0 ≤ x) && decide (x ≤ 4294967295)) = true := by simp [hx.1, hx.2]
    rw [hd, Bool.true_and]
    cases b with
    | nil => simp at h0
    | cons n b =>
      have hn0 : n = 0 := by
        unfold Rising at hr
        rw [List.pairwise_cons] at hr
        rcases List.mem_cons.1 h0 with h | h
        · exact h.symm
        · have := hr.1 0 h
          have := hrng n List.mem_cons_self
          omega
      subst hn0
      obtain ⟨z, hz, z1, z2, z3⟩ := pieceIn_at (fun n => op (InS a n) (InS c n)) b 0 x hr hx.1 hx.2
      rw [z3, in_at_cut a z x ha z1 hx.2 (fun y hy hyx => z2 y ((hm' y).2 (.inr (.inl hy))) hyx), in_at_cut c z x hc z1 hx.2 (fun y hy hyx => z2 y ((hm' y).2 (.inr (.inr hy))) hyx)]
  · rw [pieceIn_out _ x b hrng hr (by omega)]
    by_cases h1 : 0 ≤ x
    · have : ¬ x ≤ 4294967295 := by omega
      simp [this]
    · simp [h1]
end Go.Proofs.Ytconaifcjnpabaa.P

namespace Go.Proofs.Ytconaifcjnpabaa.P
open Go.Sort
set_option linter.unusedVariables false
/-! A sorted list with what is alike left out. -/
def cmpU (l : List Int) : List Int := Go.Lib.compactUpTo l.toArray l.length
theorem getB (l : List Int) (i : Nat) (h : i < l.length) : l.toArray[i]! = l[i] := by
  rw [getElem!_pos l.toArray i (by simpa using h)]
  simp
theorem cmpU_lt (l : List Int) (h : l.Pairwise (fun a b : Int => a ≤ b)) : (cmpU l).Pairwise (fun a b : Int => a < b) := by
  unfold cmpU Go.Lib.compactUpTo
  rw [List.pairwise_map, List.pairwise_filter, List.pairwise_iff_getElem]
  intro i j hi hj hij
  simp only [List.getElem_range]
  intro ki kj
  rw [List.length_range] at hi hj
  rw [List.pairwise_iff_getElem] at h
  simp only [Go.Lib.keeps, decide_eq_true_eq] at kj
  rcases kj with kj | kj
  · omega
  · have e : j - 1 + 1 = j := by omega
    rw [getB l i hi, getB l j hj]
    rw [getB l j hj, getB l (j - 1) (by omega)] at kj
    have h1 := h (j - 1) j (by omega) hj (by omega)
    rcases Nat.lt_or_ge i (j - 1) with h2 | h2
    · have h3 := h i (j - 1) hi (by omega) h2
      omega
    · have e2 : i = j - 1 := by omega
      subst e2
      omega
theorem cmpU_sub (l : List Int) (x : Int) (hx : x ∈ cmpU l) : x ∈ l := by
  unfold cmpU Go.Lib.compactUpTo at hx
  rw [List.mem_map] at hx
  obtain ⟨i, hi, rfl⟩ := hx
  have hi' := List.mem_range.1 (List.mem_filter.1 hi).1
  rw [getB l i hi']
  exact List.getElem_mem hi'
theorem cmpU_sup (l : List Int) : ∀ i (h : i < l.length), l[i] ∈ cmpU l := by
  intro i
  induction i with
  | zero =>
    intro h
    unfold cmpU Go.Lib.compactUpTo
    rw [List.mem_map]
    exact ⟨0, List.mem_filter.2 ⟨List.mem_range.2 h, by simp [Go.Lib.keeps]⟩, getB l 0 h⟩
  | succ i ih =>
    intro h
    by_cases e : l[i + 1] = l[i]
    · rw [e]; exact ih (by omega)
    · unfold cmpU Go.Lib.compactUpTo
      rw [List.mem_map]
      refine ⟨i + 1, List.mem_filter.2 ⟨List.mem_range.2 h, ?_⟩, getB l (i + 1) h⟩
      simp only [Go.Lib.keeps, decide_eq_true_eq]
      refine .inr ?_
      rw [getB l (i + 1) h, Nat.add_sub_cancel, getB l i (by omega)]
      exact e
theorem cmpU_mem (l : List Int) (x : Int) : x ∈ cmpU l ↔ x ∈ l := by
  constructor
  · exact cmpU_sub l x
  · intro h
    obtain ⟨i, hi, rfl⟩ := List.getElem_of_mem h
    exact cmpU_sup l i hi
theorem cmpU_le (l : List Int) : (cmpU l).length ≤ l.length := by
  unfold cmpU Go.Lib.compactUpTo
  rw [List.length_map]
  exact Nat.le_trans (List.length_filter_le _ _) (by simp)
theorem lt_unique : ∀ (l r : List Int), l.Pairwise (fun a b : Int => a < b) → r.Pairwise (fun a b : Int => a < b) → (∀ x, x ∈ l ↔ x ∈ r) → l = r
  | [], [], _, _, _ => rfl
  | [], y :: t, _, _, h => by have := (h y).2 (List.mem_cons_self ..); simp at this
  | x :: s, [], _, _, h => by have := (h x).1 (List.mem_cons_self ..); simp at this
  | x :: s, y :: t, h1, h2, h => by
    rw [List.pairwise_cons] at h1 h2
    have hxy : x = y := by
      rcases List.mem_cons.1 ((h x).1 (List.mem_cons_self ..)) with e | e
      · exact e
      · rcases List.mem_cons.1 ((h y).2 (List.mem_cons_self ..)) with e2 | e2
        · exact e2.symm
        · have a1 := h2.1 x e
          have a2 := h1.1 y e2
          omega
    subst hxy
    rw [lt_unique s t h1.2 h2.2]
    intro z
    constructor
    · intro hz
      rcases List.mem_cons.1 ((h z).1 (List.mem_cons_of_mem _ hz)) with e | e
      · have := h1.1 z hz; omega
      · exact e
    · intro hz
      rcases List.mem_cons.1 ((h z).2 (List.mem_cons_of_mem _ hz)) with e | e
      · have := h2.1 z hz; omega
      · exact e
/-- A list's numbers, each once, rising. -/
def setU (l : List Int) : List Int := cmpU (sortU l)
theorem setU_lt (l : List Int) : (setU l).Pairwise (fun a b : Int => a < b) := cmpU_lt _ (sortU_pair l)
theorem setU_mem (l : List Int) (x : Int) : x ∈ setU l ↔ x ∈ l := (cmpU_mem _ x).trans (sortU_mem l x)
theorem setU_le (l : List Int) : (setU l).length ≤ l.length := Nat.le_trans (cmpU_le _) (Nat.le_of_eq (sortU_len l))
theorem setU_self (l : List Int) (h : l.Pairwise (fun a b : Int => a < b)) : setU l = l := lt_unique _ _ (setU_lt l) h (setU_mem l)
theorem setU_idem (l : List Int) : setU (setU l) = setU l := setU_self _ (setU_lt l)
end Go.Proofs.Ytconaifcjnpabaa.P

namespace Go.Proofs.Ytconaifcjnpabaa.P
open Go.RowKit Go.Proofs.YtconaifcjnpabaaW.PrintWords Go.Proofs.YtconaifcjnpabaaW.PrintMore
set_option linter.unusedVariables false
set_option linter.unusedSimpArgs false
/-! The atoms of sets, by the places where one of them turns. -/
def atomsOf : Int → List Int → List S33
  | f, [] => [⟨f, 4294967295⟩]
  | f, c :: cs => ⟨f, c - 1⟩ :: atomsOf c cs
def cutsN : List S33 → List Int
  | [] => []
  | s :: r => if s.f1 < 4294967295 then s.f0 :: (s.f1 + 1) :: cutsN r else s.f0 :: cutsN r
theorem mem_cutsN (t : List S33) (x : Int) : x ∈ cutsN t ↔ ∃ s ∈ t, x = s.f0 ∨ s.f1 < 4294967295 ∧ x = s.f1 + 1 := by
  induction t with
  | nil => simp [cutsN]
  | cons s r ih =>
    unfold cutsN
    constructor
    · intro h
      split at h
      · rename_i hl
        rcases List.mem_cons.1 h with h | h
        · exact ⟨s, List.mem_cons_self, .inl h⟩
        · rcases List.mem_cons.1 h with h | h
          · exact ⟨s, List.mem_cons_self, .inr ⟨hl, h⟩⟩
          · obtain ⟨z, hz, q⟩ := ih.1 h
            exact ⟨z, List.mem_cons_of_mem _ hz, q⟩
      · rcases List.mem_cons.1 h with h | h
        · exact ⟨s, List.mem_cons_self, .inl h⟩
        · obtain ⟨z, hz, q⟩ := ih.1 h
          exact ⟨z, List.mem_cons_of_mem _ hz, q⟩
    · rintro ⟨z, hz, q⟩
      rcases List.mem_cons.1 hz with rfl | hz
      · split
        · rcases q with q | ⟨_, q⟩
          · rw [q]; exact List.mem_cons_self
          · rw [q]; exact List.mem_cons_of_mem _ List.mem_cons_self
        · rcases q with q | ⟨q, _⟩
          · rw [q]; exact List.mem_cons_self
          · omega
      · have := ih.2 ⟨z, hz, q⟩
        split
        · exact List.mem_cons_of_mem _ (List.mem_cons_of_mem _ this)
        · exact List.mem_cons_of_mem _ this
theorem cutsN_len (t : List S33) : (cutsN t).length ≤ 2 * t.length := by
  induction t with
  | nil => simp [cutsN]
  | cons s r ih => unfold cutsN; split <;> simp only [List.length_cons] <;> omega
theorem nf_apart {t : List S33} (h : NF t) : ∀ a ∈ t, ∀ b ∈ t, a = b ∨ a.f1 + 1 < b.f0 ∨ b.f1 + 1 < a.f0 := by
  induction t with
  | nil => intro a ha; simp at ha
  | cons s r ih =>
    obtain ⟨h1, h2, h3⟩ := NF_cons.1 h
    intro a ha b hb
    rcases List.mem_cons.1 ha with ea | ha <;> rcases List.mem_cons.1 hb with eb | hb
    · exact .inl (ea.trans eb.symm)
    · rw [ea]; exact .inr (.inl (h2 b hb))
    · rw [eb]; exact .inr (.inr (h2 a ha))
    · exact ih h3 a ha b hb
theorem inS_true {l : List S33} {x : Int} (s : S33) (hs : s ∈ l) (h : s.f0 ≤ x ∧ x ≤ s.f1) : InS l x = true := (InS_iff l x).2 ⟨s, hs, h⟩
theorem nf_turn {t : List S33} (h : NF t) (x : Int) (h0 : 0 < x) (hx : x ≤ 4294967295) : x ∈ cutsN t ↔ InS t x ≠ InS t (x - 1) := by
  have hok := h.1
  rw [mem_cutsN]
  constructor
  · rintro ⟨s, hs, q⟩
    have os := hok s hs
    unfold Ok at os
    rcases q with rfl | ⟨q1, rfl⟩
    · have e1 : InS t s.f0 = true := inS_true s hs (by omega)
      have e2 : InS t (s.f0 - 1) = false := by
        rw [Bool.eq_false_iff]
        intro e
        obtain ⟨z, hz, z0, z1⟩ := (InS_iff t _).1 e
        have oz := hok z hz
        unfold Ok at oz
        rcases nf_apart h s hs z hz with rfl | a | a <;> omega
      rw [e1, e2]; decide
    · have e1 : InS t (s.f1 + 1 - 1) = true := inS_true s hs (by omega)
      have e2 : InS t (s.f1 + 1) = false := by
        rw [Bool.eq_false_iff]
        intro e
        obtain ⟨z, hz, z0, z1⟩ := (InS_iff t _).1 e
        have oz := hok z hz
        unfold Ok at oz
        rcases nf_apart h s hs z hz with rfl | a | a <;> omega
      rw [e1, e2]; decide
  · intro hne
    cases e : InS t x with
    | true =>
      have e2 : InS t (x - 1) = false := by
        cases e3 : InS t (x - 1) with
        | false => rfl
        | true => exact absurd (e.trans e3.symm) hne
      obtain ⟨s, hs, s0, s1⟩ := (InS_iff t x).1 e
      refine ⟨s, hs, .inl ?_⟩
      by_cases hq : s.f0 = x
      · exact hq.symm
      · have := inS_true (x := x - 1) s hs (by omega)
        rw [e2] at this
        exact absurd this (by decide)
    | false =>
      have e2 : InS t (x - 1) = true := by
        cases e3 : InS t (x - 1) with
        | true => rfl
        | false => exact absurd (e.trans e3.symm) hne
      obtain ⟨s, hs, s0, s1⟩ := (InS_iff t (x - 1)).1 e2
      have os := hok s hs
      unfold Ok at os
      refine ⟨s, hs, .inr ?_⟩
      by_cases hq : x ≤ s.f1
      · have := inS_true (x := x) s hs (by omega)
        rw [e] at this
        exact absurd this (by decide)
      · omega
/-- A number at which one of the sets turns. -/
def Turn (L : List (List S33)) (x : Int) : Prop := ∃ l ∈ L, InS l x ≠ InS l (x - 1)
theorem turn_cut (l : List S33) (x : Int) (hr : Rng l) (h0 : 0 < x) (hx : x ≤ 4294967295) (h : InS l x ≠ InS l (x - 1)) : IsCut l x := by
  apply Classical.byContradiction
  intro hc
  refine h (in_at_cut l (x - 1) x hr (by omega) hx ?_)
  intro z hz hzx
  by_cases e : z = x
  · exact absurd (e ▸ hz) hc
  · omega
def dropZ : List Int → List Int
  | [] => []
  | x :: s => if x = 0 then s else x :: s
theorem dropZ_spec (l : List Int) (h : Rising l) (h0 : ∀ x ∈ l, 0 ≤ x) : Rising (dropZ l) ∧ ∀ x, x ∈ dropZ l ↔ x ∈ l ∧ 0 < x := by
  cases l with
  | nil => exact ⟨h, fun x => by simp [dropZ]⟩
  | cons y s =>
    unfold Rising at h
    have h' := List.pairwise_cons.1 h
    simp only [dropZ]
    by_cases e : y = 0
    · rw [if_pos e]
      refine ⟨h'.2, fun x => ?_⟩
      constructor
      · intro hx
        have := h'.1 x hx
        exact ⟨List.mem_cons_of_mem _ hx, by omega⟩
      · rintro ⟨hx, h1⟩
        rcases List.mem_cons.1 hx with rfl | hx
        · omega
        · exact hx
    · rw [if_neg e]
      refine ⟨h, fun x => ?_⟩
      constructor
      · intro hx
        refine ⟨hx, ?_⟩
        have hy := h0 y List.mem_cons_self
        rcases List.mem_cons.1 hx with rfl | hx
        · omega
        · have := h'.1 x hx; omega
      · exact fun hx => hx.1
/-- Of the numbers behind p those at which a set has turned since the one before. -/
def sameAt (L : List (List S33)) (p n : Int) : Bool := L.all (fun l => InS l n == InS l p)
theorem sameAt_false (L : List (List S33)) (p n : Int) : sameAt L p n = false ↔ ∃ l ∈ L, InS l n ≠ InS l p := by
  unfold sameAt
  rw [← Bool.not_eq_true, List.all_eq_true]
  constructor
  · intro h
    apply Classical.byContradiction
    intro hn
    refine h (fun l hl => ?_)
    rw [beq_iff_eq]
    apply Classical.byContradiction
    intro hne
    exact hn ⟨l, hl, hne⟩
  · rintro ⟨l, hl, hne⟩ h
    exact hne (beq_iff_eq.1 (h l hl))
def kf (L : List (List S33)) : Int → List Int → List Int
  | _, [] => []
  | p, n :: r => if sameAt L p n then kf L n r else n :: kf L n r
theorem kf_spec (L : List (List S33)) (hL : ∀ l ∈ L, Rng l) : ∀ (r : List Int) (p : Int), Rising (p :: r) → (∀ x ∈ r, x ≤ 4294967295) → (∀ l ∈ L, ∀ z, IsCut l z → z ≤ p ∨ z ∈ r) →
    Rising (kf L p r) ∧ (∀ x, x ∈ kf L p r ↔ x ∈ r ∧ Turn L x)
  | [], p, _, _, _ => ⟨List.Pairwise.nil, fun x => by simp [kf]⟩
  | n :: r, p, hr, hm, hc => by
    unfold Rising at hr
    obtain ⟨h1, h2⟩ := List.pairwise_cons.1 hr
    have h3 := List.pairwise_cons.1 h2
    have hpn := h1 n List.mem_cons_self
    obtain ⟨k1, k2⟩ := kf_spec L hL r n h2 (fun x hx => hm x (List.mem_cons_of_mem _ hx)) (fun l hl z hz => by
      rcases hc l hl z hz with q | q
      · exact .inl (by omega)
      · rcases List.mem_cons.1 q with q | q
        · exact .inl (by omega)
        · exact .inr q)
    have hsame : ∀ l ∈ L, InS l (n - 1) = InS l p := fun l hl => by
      refine in_at_cut l p (n - 1) (hL l hl) (by omega) (by have := hm n List.mem_cons_self; omega) ?_
      intro z hz hzn
      rcases hc l hl z hz with q | q
      · exact q
      · rcases List.mem_cons.1 q with q | q
        · omega
        · have := h3.1 z q; omega
    have hturn : sameAt L p n = false ↔ Turn L n := by
      rw [sameAt_false]
      constructor
      · rintro ⟨l, hl, q⟩; exact ⟨l, hl, by rw [hsame l hl]; exact q⟩
      · rintro ⟨l, hl, q⟩; exact ⟨l, hl, by rw [← hsame l hl]; exact q⟩
    unfold kf
    cases e : sameAt L p n with
    | true =>
      rw [if_pos rfl]
      refine ⟨k1, fun x => ?_⟩
      rw [k2]
      constructor
      · rintro ⟨q1, q2⟩; exact ⟨List.mem_cons_of_mem _ q1, q2⟩
      · rintro ⟨q1, q2⟩
        rcases List.mem_cons.1 q1 with rfl | q1
        · rw [hturn.2 q2] at e; exact absurd e (by decide)
        · exact ⟨q1, q2⟩
    | false =>
      rw [if_neg (by decide)]
      refine ⟨?_, fun x => ?_⟩
      · unfold Rising at k1 ⊢
        rw [List.pairwise_cons]
        exact ⟨fun x hx => h3.1 x ((k2 x).1 hx).1, k1⟩
      · constructor
        · intro hx
          rcases List.mem_cons.1 hx with rfl | hx
          · exact ⟨List.mem_cons_self, hturn.1 e⟩
          · exact ⟨List.mem_cons_of_mem _ ((k2 x).1 hx).1, ((k2 x).1 hx).2⟩
        · rintro ⟨q1, q2⟩
          rcases List.mem_cons.1 q1 with rfl | q1
          · exact List.mem_cons_self
          · exact List.mem_cons_of_mem _ ((k2 x).2 ⟨q1, q2⟩)
/-- What the sets' cuts have that is told by the turns alone. -/
def Turns (L : List (List S33)) (C : List Int) : Prop := Rising C ∧ ∀ x, x ∈ C ↔ 0 < x ∧ x ≤ 4294967295 ∧ Turn L x
theorem Turns.uniq {L : List (List S33)} {C D : List Int} (h : Turns L C) (k : Turns L D) : C = D := lt_unique C D h.1 k.1 (fun x => (h.2 x).trans (k.2 x).symm)
theorem kf_turns (L : List (List S33)) (hL : ∀ l ∈ L, Rng l) : ∃ r, cutL [0] L = 0 :: r ∧ Turns L (kf L 0 r) ∧ Rising (0 :: r) ∧ (∀ x ∈ r, 0 < x ∧ x ≤ 4294967295) := by
  obtain ⟨hr, hm⟩ := cutL_spec L [0] (List.pairwise_singleton _ _)
  have hcr : ∀ l ∈ L, ∀ z, IsCut l z → 0 ≤ z ∧ z ≤ 4294967295 := by
    rintro l hl z ⟨s, hs, q1, q2⟩
    have := hL l hl s hs
    omega
  have hrng : ∀ x ∈ cutL [0] L, 0 ≤ x ∧ x ≤ 4294967295 := fun x hx => by
    rcases (hm x).1 hx with h | ⟨l, hl, hc⟩
    · rw [List.mem_singleton.1 h]; omega
    · exact hcr l hl x hc
  have h0m : (0 : Int) ∈ cutL [0] L := (hm 0).2 (.inl List.mem_cons_self)
  cases hq : cutL [0] L with
  | nil => rw [hq] at h0m; simp at h0m
  | cons n r =>
    rw [hq] at hr h0m hrng
    have hr' := List.pairwise_cons.1 hr
    have hn : n = 0 := by
      have := hrng n List.mem_cons_self
      rcases List.mem_cons.1 h0m with e | e
      · exact e.symm
      · have := hr'.1 0 e; omega
    subst hn
    have hrp : ∀ x ∈ r, 0 < x ∧ x ≤ 4294967295 := fun x hx => ⟨hr'.1 x hx, (hrng x (List.mem_cons_of_mem _ hx)).2⟩
    obtain ⟨k1, k2⟩ := kf_spec L hL r 0 hr (fun x hx => (hrp x hx).2) (fun l hl z hz => by
      have hz2 := (hm z).2 (.inr ⟨l, hl, hz⟩)
      rw [hq] at hz2
      rcases List.mem_cons.1 hz2 with e | e
      · exact .inl (by omega)
      · exact .inr e)
    refine ⟨r, rfl, ⟨k1, fun x => ?_⟩, hr, hrp⟩
    rw [k2]
    constructor
    · rintro ⟨q1, q2⟩; exact ⟨(hrp x q1).1, (hrp x q1).2, q2⟩
    · rintro ⟨q1, q2, l, hl, q3⟩
      refine ⟨?_, l, hl, q3⟩
      have hz2 := (hm x).2 (.inr ⟨l, hl, turn_cut l x (hL l hl) q1 q2 q3⟩)
      rw [hq] at hz2
      rcases List.mem_cons.1 hz2 with e | e
      · omega
      · exact e
theorem set_last (p : List S33) (x y : S33) : (p ++ [x]).set p.length y = p ++ [y] := by simp
end Go.Proofs.Ytconaifcjnpabaa.P
