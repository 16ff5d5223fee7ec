/- Part of the proof of the law ActAll: the functions that it reaches, by contract. -/
import Derived.Test.YtgelpccjdndfoaaCActAll0
import Derived.Test.YtgelpccjdndfoaaCActAll1
namespace Go.Proofs.Ytgelpccjdndfoaa.P
open Go.RowKit Go.Proofs.YtgelpccjdndfoaaW.PrintWords Go.Proofs.YtgelpccjdndfoaaW.PrintLast Go.Proofs.YtgelpccjdndfoaaW.PrintMore
attribute [local go_sem] max2_int min2_int max_two min_two max_three min_three max_four min_four
set_option linter.unusedVariables false
set_option linter.unusedSimpArgs false

/-! ### act_All: function 22 -/
def q13z.l0 : Nat → List (S26) → Int → Int → Int → Int → List Int → List Int → Int → Int → Int → Int → Option (Int × Int × List Int × List Int × Int × Int × Int × Int)
 | 0, _, _, _, _, _, _, _, _, _, _, _ => none
 | k + 1, x9, x10, x11, x2000, x2001, x2002, x2003, x2004, x2005, x2006, x2007 => if x11 < x10 then (if 0 ≤ x11 then (if x11 < (x9.length : Int) then ((q9z.f k ((rd_T26 x9 x11).f0) ((rd_T26 x9 x11).f1) ((rd_T26 x9 x11).f2) ((rd_T26 x9 x11).f3) x2000 x2001 x2002 x2003 x2004 x2005 x2006 x2007).bind fun bt17 => (q13z.l0 k x9 x10 (wrap64 (x11 + 1)) bt17.1 bt17.2.1 bt17.2.2.1 bt17.2.2.2.1 bt17.2.2.2.2.1 bt17.2.2.2.2.2.1 bt17.2.2.2.2.2.2.1 bt17.2.2.2.2.2.2.2)) else (none)) else (none)) else (some (x2000, x2001, x2002, x2003, x2004, x2005, x2006, x2007))
def q13z.f (k : Nat) (l0 : List (S26)) (a1_0 : Int) (a1_1 : Int) (l1_2 : List Int) (l1_3 : List Int) (a1_4 : Int) (a1_5 : Int) (a1_6 : Int) (a1_7 : Int) : Option (Int × Int × List Int × List Int × Int × Int × Int × Int) := (q6z.f a1_0 a1_1 l1_2 l1_3 a1_4 a1_5 a1_6 a1_7).bind fun bt3 => (q13z.l0 k l0 (l0.length : Int) 0 bt3.1 bt3.2.1 bt3.2.2.1 bt3.2.2.2.1 bt3.2.2.2.2.1 bt3.2.2.2.2.2.1 bt3.2.2.2.2.2.2.1 bt3.2.2.2.2.2.2.2)
theorem q13z.mono_l : ∀ k, (∀ y0 y1 y2 y3 y4 y5 y6 y7 y8 y9 y10, LeO (q13z.l0 k y0 y1 y2 y3 y4 y5 y6 y7 y8 y9 y10) (q13z.l0 (k + 1) y0 y1 y2 y3 y4 y5 y6 y7 y8 y9 y10))
 | 0 => fun _ _ _ _ _ _ _ _ _ _ _ r h => by simp [q13z.l0] at h
 | k + 1 => by
  have ih0 := q13z.mono_l k
  ·
   intro y0 y1 y2 y3 y4 y5 y6 y7 y8 y9 y10
   unfold q13z.l0
   repeat' first
   | (with_reducible exact ih0 _ _ _ _ _ _ _ _ _ _ _)
   | (with_reducible exact q9z.mono _ _ _ _ _ _ _ _ _ _ _ _ _)
   | (with_reducible exact LeO.refl _)
   | (with_reducible exact LeO.none _)
   | (with_reducible refine LeO.ite ?_ ?_)
   | (with_reducible refine LeO.bind ?_ (fun _ => ?_))
   | exact ih0 _ _ _ _ _ _ _ _ _ _ _
   | exact q9z.mono _ _ _ _ _ _ _ _ _ _ _ _ _
   | exact LeO.none _
   | refine LeO.ite ?_ ?_
   | refine LeO.bind ?_ (fun _ => ?_)
theorem q13z.mono : ∀ a0 a1 a2 a3 a4 a5 a6 a7 a8 k, LeO (q13z.f k a0 a1 a2 a3 a4 a5 a6 a7 a8) (q13z.f (k + 1) a0 a1 a2 a3 a4 a5 a6 a7 a8) := by
 intro a0 a1 a2 a3 a4 a5 a6 a7 a8 k
 have ih0 := q13z.mono_l k
 unfold q13z.f
 repeat' first
   | (with_reducible exact ih0 _ _ _ _ _ _ _ _ _ _ _)
   | (with_reducible exact q9z.mono _ _ _ _ _ _ _ _ _ _ _ _ _)
   | (with_reducible exact LeO.refl _)
   | (with_reducible exact LeO.none _)
   | (with_reducible refine LeO.ite ?_ ?_)
   | (with_reducible refine LeO.bind ?_ (fun _ => ?_))
   | exact ih0 _ _ _ _ _ _ _ _ _ _ _
   | exact q9z.mono _ _ _ _ _ _ _ _ _ _ _ _ _
   | exact LeO.none _
   | refine LeO.ite ?_ ?_
   | refine LeO.bind ?_ (fun _ => ?_)
set_option maxHeartbeats 8000000 in
set_option maxRecDepth 100000 in
theorem q13z.calls (k : Nat) (A0 : Option Addr) (c0 : Nat) (l0 : List (S26)) (a1_0 : Int) (a1_1 : Int) (A1_2 : Option Addr) (c1_2 : Nat) (l1_2 : List Int) (A1_3 : Option Addr) (c1_3 : Nat) (l1_3 : List Int) (a1_4 : Int) (a1_5 : Int) (a1_6 : Int) (a1_7 : Int) (r1 : Int) (r2 : Int) (r3 : List Int) (r4 : List Int) (r5 : Int) (r6 : Int) (r7 : Int) (r8 : Int) (w : World) (hr0 : Kd.C k26 w A0 l0.length l0) (hc0 : l0.length ≤ c0) (hr1_2 : Kd.C (Kd.int .u32) w A1_2 l1_2.length l1_2) (hc1_2 : l1_2.length ≤ c1_2) (hr1_3 : Kd.C (Kd.int .u32) w A1_3 l1_3.length l1_3) (hc1_3 : l1_3.length ≤ c1_3) (h : q13z.f k l0 a1_0 a1_1 l1_2 l1_3 a1_4 a1_5 a1_6 a1_7 = some (r1, r2, r3, r4, r5, r6, r7, r8)) :
  Calls Try.prog 22 #[.slice A0 l0.length c0, .agg #[.int .u32 a1_0, .int .i64 a1_1, .slice A1_2 l1_2.length c1_2, .slice A1_3 l1_3.length c1_3, .int .u32 a1_4, .int .u32 a1_5, .int .i64 a1_6, .int .u32 a1_7]] w fun e w' => ∃ v2_ v3_ : Value, e = .returned (.agg #[.int .u32 r1, .int .i64 r2, v2_, v3_, .int .u32 r5, .int .u32 r6, .int .i64 r7, .int .u32 r8]) ∧ Kd.R (Kd.int .u32) 22 w' w.heap.size (fun k_ => some k_ ≠ (v3_ : Value).ownBlock) v2_ r3 ∧ Kd.R (Kd.int .u32) 22 w' w.heap.size (fun k_ => some k_ ≠ (v2_ : Value).ownBlock) v3_ r4 ∧ Below w.heap.size w w' := by
 have hu30 := Try.underlying30
 have hu26 := Try.underlying26
 have HR0 := Aside0.mk hr0
 have HC0 := Aside0.mk hc0
 clear hr0 hc0
 have HR1_2 := Aside0.mk hr1_2
 have HC1_2 := Aside0.mk hc1_2
 clear hr1_2 hc1_2
 have HR1_3 := Aside0.mk hr1_3
 have HC1_3 := Aside0.mk hc1_3
 clear hr1_3 hc1_3
 have HB := Aside0.mk (Below.refl w.heap.size w)
 have H : ((q6z.f a1_0 a1_1 l1_2 l1_3 a1_4 a1_5 a1_6 a1_7).bind fun bt3 => (q13z.l0 k l0 (l0.length : Int) 0 bt3.1 bt3.2.1 bt3.2.2.1 bt3.2.2.2.1 bt3.2.2.2.2.1 bt3.2.2.2.2.2.1 bt3.2.2.2.2.2.2.1 bt3.2.2.2.2.2.2.2)) = some (r1, r2, r3, r4, r5, r6, r7, r8) := h
 clear h
 replace H := Option.bind_eq_some_iff.mp H
 obtain ⟨⟨t3, t4, t5, t8, t11, t12, t13, t14⟩, A30, H⟩ := H
 replace H : (q13z.l0 k l0 (l0.length : Int) 0 t3 t4 t5 t8 t11 t12 t13 t14) = some (r1, r2, r3, r4, r5, r6, r7, r8) := H
 have A3 := Aside0.mk A30
 clear A30
 have H' := Aside0.mk H
 clear H
 go_enter Try.func22, Try.ntmps22
 go_wp2_with (first | ((with_reducible refine gate_dst (N := 3) rfl ?_); refine box_event ?hg (N := 3) ?hd (cs := #[.int .u32 a1_0, .int .i64 a1_1, .slice A1_2 l1_2.length c1_2, .slice A1_3 l1_3.length c1_3, .int .u32 a1_4, .int .u32 a1_5, .int .i64 a1_6, .int .u32 a1_7]) (t := 30) ?hr ?_; (case hd => rfl); (case hg => rfl); (case hr => first | (go_simp; done) | (go_simp; rfl)); intro gb1 hg w4 hbox hb; have n0_ := hbS HB hb; have n1_ := Aside0.mk (hbox); have n2_ := Aside0.mk ((by rw [hg]; exact (below_size (hbW HB)) : w.heap.size ≤ gb1)); have n3_ := Aside0.mk ((by rw [hg]; exact (below_size (hbW HB)) : w.heap.size ≤ gb1)); clear HB; have HB := n0_; have BK1 := n1_; have GW1 := n2_; have GE1 := n3_; clear n0_ n1_ n2_ n3_; clear hb hbox hg) | ((with_reducible refine gate_dst (N := 4) rfl ?_); refine box_event ?hg (N := 4) ?hd (cs := #[.int .u32 0, .int .i64 0, .slice none 0 0, .slice none 0 0, .int .u32 0, .int .u32 0, .int .i64 0, .int .u32 0]) (t := 30) ?hr ?_; (case hd => rfl); (case hg => rfl); (case hr => first | (go_simp; done) | (go_simp; rfl)); intro gb2 hg w5 hbox hb; have n0_ := bkB BK1 hb; have n1_ := hbS HB hb; have n2_ := Aside0.mk (hbox); have n3_ := Aside0.mk ((by rw [hg]; exact (below_size (hbW HB)) : w.heap.size ≤ gb2)); have n4_ := Aside0.mk ((by rw [hg]; exact (below_size (hbW HB)) : w.heap.size ≤ gb2)); have n5_ := Aside0.mk ((by rw [hg]; exact Nat.ne_of_lt (blk_lt (bkW BK1)) : gb1 ≠ gb2)); have n6_ := Aside0.mk ((by rw [hg]; exact Nat.ne_of_gt (blk_lt (bkW BK1)) : gb2 ≠ gb1)); clear BK1; clear HB; have BK1 := n0_; have HB := n1_; have BK2 := n2_; have GW2 := n3_; have GE2 := n4_; have NB1_2 := n5_; have NB2_1 := n6_; clear n0_ n1_ n2_ n3_ n4_ n5_ n6_; clear hb hbox hg; have hnb6 := NB1_2.out; have hnc6 := NB2_1.out; have hcz7_0 : w5.cell? ⟨gb1, 0, none⟩ = some (.int .u32 a1_0) := (blk_cell BK1.out 0).trans rfl; have hcz7_1 : w5.cell? ⟨gb1, 1, none⟩ = some (.int .i64 a1_1) := (blk_cell BK1.out 1).trans rfl; have hcz7_2 : w5.cell? ⟨gb1, 2, none⟩ = some (.slice A1_2 l1_2.length c1_2) := (blk_cell BK1.out 2).trans rfl; have hcz7_3 : w5.cell? ⟨gb1, 3, none⟩ = some (.slice A1_3 l1_3.length c1_3) := (blk_cell BK1.out 3).trans rfl; have hcz7_4 : w5.cell? ⟨gb1, 4, none⟩ = some (.int .u32 a1_4) := (blk_cell BK1.out 4).trans rfl; have hcz7_5 : w5.cell? ⟨gb1, 5, none⟩ = some (.int .u32 a1_5) := (blk_cell BK1.out 5).trans rfl; have hcz7_6 : w5.cell? ⟨gb1, 6, none⟩ = some (.int .i64 a1_6) := (blk_cell BK1.out 6).trans rfl; have hcz7_7 : w5.cell? ⟨gb1, 7, none⟩ = some (.int .u32 a1_7) := (blk_cell BK1.out 7).trans rfl; have hfz7_0 := blk_frozen BK1.out 0; have hfz7_1 := blk_frozen BK1.out 1; have hfz7_2 := blk_frozen BK1.out 2; have hfz7_3 := blk_frozen BK1.out 3; have hfz7_4 := blk_frozen BK1.out 4; have hfz7_5 := blk_frozen BK1.out 5; have hfz7_6 := blk_frozen BK1.out 6; have hfz7_7 := blk_frozen BK1.out 7) | ((with_reducible refine gate_callee (f := 26) rfl ?_); refine goesL_ (some 8) rfl rfl Try.func26 (by kernel_rfl) rfl #[.agg #[.int .u32 a1_0, .int .i64 a1_1, .slice A1_2 l1_2.length c1_2, .slice A1_3 l1_3.length c1_3, .int .u32 a1_4, .int .u32 a1_5, .int .i64 a1_6, .int .u32 a1_7]] rfl (by (try simp only [List.map_toArray, List.map_cons, List.map_nil]); first | done | rfl | (simp only [List.length_drop, List.length_take]; rfl)) ?_; (with_reducible refine (q6z.calls a1_0 a1_1 _ _ l1_2 _ _ l1_3 a1_4 a1_5 a1_6 a1_7 t3 t4 t5 t8 t11 t12 t13 t14 _ ?side1 ?side2 ?side3 ?side4 A3.out).mono ?_); (case side1 => repeat (first | exact (Kd.C_below HR1_2.out HB.out) | (with_reducible refine Kd.C_alloc ?_ _) | (with_reducible refine Kd.C_drewN ?_ _) | (with_reducible refine Kd.C_drew ?_))); (case side2 => exact HC1_2.out); (case side3 => repeat (first | exact (Kd.C_below HR1_3.out HB.out) | (with_reducible refine Kd.C_alloc ?_ _) | (with_reducible refine Kd.C_drewN ?_ _) | (with_reducible refine Kd.C_drew ?_))); (case side4 => exact HC1_3.out); rintro e w8 ⟨v6, v9, rfl, ho0, ho1, hb⟩; refine ⟨_, rfl, ?_⟩; have n0_ := Aside0.mk (Kd.R_lower ho0 (below_size (hbW HB))); have n1_ := Aside0.mk (Kd.R_lower ho1 (below_size (hbW HB))); have n2_ := bkB BK1 hb; have n3_ := bkB BK2 hb; have n4_ := hbS HB hb; clear BK1; clear BK2; clear HB; have HO7 := n0_; have HO10 := n1_; have BK1 := n2_; have BK2 := n3_; have HB := n4_; clear n0_ n1_ n2_ n3_ n4_; (try clear hb); (try clear hb2); (try clear hk); (try clear hi); (try clear ho0); (try clear ho1); have hcz9_0 : w8.cell? ⟨gb1, 0, none⟩ = some (.int .u32 a1_0) := (blk_cell BK1.out 0).trans rfl; have hcz9_1 : w8.cell? ⟨gb1, 1, none⟩ = some (.int .i64 a1_1) := (blk_cell BK1.out 1).trans rfl; have hcz9_2 : w8.cell? ⟨gb1, 2, none⟩ = some (.slice A1_2 l1_2.length c1_2) := (blk_cell BK1.out 2).trans rfl; have hcz9_3 : w8.cell? ⟨gb1, 3, none⟩ = some (.slice A1_3 l1_3.length c1_3) := (blk_cell BK1.out 3).trans rfl; have hcz9_4 : w8.cell? ⟨gb1, 4, none⟩ = some (.int .u32 a1_4) := (blk_cell BK1.out 4).trans rfl; have hcz9_5 : w8.cell? ⟨gb1, 5, none⟩ = some (.int .u32 a1_5) := (blk_cell BK1.out 5).trans rfl; have hcz9_6 : w8.cell? ⟨gb1, 6, none⟩ = some (.int .i64 a1_6) := (blk_cell BK1.out 6).trans rfl; have hcz9_7 : w8.cell? ⟨gb1, 7, none⟩ = some (.int .u32 a1_7) := (blk_cell BK1.out 7).trans rfl; have hfz9_0 := blk_frozen BK1.out 0; have hfz9_1 := blk_frozen BK1.out 1; have hfz9_2 := blk_frozen BK1.out 2; have hfz9_3 := blk_frozen BK1.out 3; have hfz9_4 := blk_frozen BK1.out 4; have hfz9_5 := blk_frozen BK1.out 5; have hfz9_6 := blk_frozen BK1.out 6; have hfz9_7 := blk_frozen BK1.out 7; obtain ⟨Ao10, co10, eo10⟩ := Kd.R_slice HO7.out; subst eo10; obtain ⟨Ao11, co11, eo11⟩ := Kd.R_slice HO10.out; subst eo11))
 go_loopg [11] k (fun kq v11 w' => ∃ (x11_1 : Int) (x2000_1 : Int) (x2001_1 : Int) (x2002_1 : List Int) (x2003_1 : List Int) (x2004_1 : Int) (x2005_1 : Int) (x2006_1 : Int) (x2007_1 : Int) (u2002 : Value) (u2003 : Value), v11 = .int .i64 x11_1 ∧ Aside0 (q13z.l0 kq l0 (l0.length : Int) x11_1 x2000_1 x2001_1 x2002_1 x2003_1 x2004_1 x2005_1 x2006_1 x2007_1 = some (r1, r2, r3, r4, r5, r6, r7, r8)) ∧ Aside0 (kq ≤ k) ∧ Aside0 (Kd.R (Kd.int .u32) 22 w' w.heap.size (fun k_ => some k_ ≠ (u2003 : Value).ownBlock) u2002 x2002_1) ∧ Aside0 (Kd.R (Kd.int .u32) 22 w' w.heap.size (fun k_ => some k_ ≠ (u2002 : Value).ownBlock) u2003 x2003_1) ∧ Aside0 (w'.heap[gb1]? = some (.cells #[.int .u32 x2000_1, .int .i64 x2001_1, u2002, u2003, .int .u32 x2004_1, .int .u32 x2005_1, .int .i64 x2006_1, .int .u32 x2007_1] 30 (0, 0))) ∧ Aside0 (w'.heap[gb2]? = some (.cells #[.int .u32 0, .int .i64 0, (.slice none 0 0), (.slice none 0 0), .int .u32 0, .int .u32 0, .int .i64 0, .int .u32 0] 30 (0, 0))) ∧ Aside0 (Below w.heap.size w w'))
 case atStart => exact ⟨(0), (t3), (t4), (t5), (t8), (t11), (t12), (t13), (t14), (.slice Ao10 t5.length co10), (.slice Ao11 t8.length co11), (by first | rfl | (simp; done) | (simp [*]; done)), H', ⟨Nat.le_refl _⟩, ⟨by (with_reducible repeat (first | apply Kd.R_alloc | apply Kd.R_drewN | apply Kd.R_drew)); exact Kd.R_mono (Kd.R_far (p := ⟨gb1, 7, none⟩) (Kd.R_far (p := ⟨gb1, 6, none⟩) (Kd.R_far (p := ⟨gb1, 5, none⟩) (Kd.R_far (p := ⟨gb1, 4, none⟩) (Kd.R_far (p := ⟨gb1, 3, none⟩) (Kd.R_far (p := ⟨gb1, 2, none⟩) (Kd.R_far (p := ⟨gb1, 1, none⟩) (Kd.R_far (p := ⟨gb1, 0, none⟩) (Kd.R_types HO7.out BK1.out (by decide)) (fun _ hk => hk.2) (.int .u32 t3)) (fun _ hk => hk.2) (.int .i64 t4)) (fun _ hk => hk.2) (.slice Ao10 t5.length co10)) (fun _ hk => hk.2) (.slice Ao11 t8.length co11)) (fun _ hk => hk.2) (.int .u32 t11)) (fun _ hk => hk.2) (.int .u32 t12)) (fun _ hk => hk.2) (.int .i64 t13)) (fun _ hk => hk.2) (.int .u32 t14)) (fun _ hk => hk.1)⟩, ⟨by (with_reducible repeat (first | apply Kd.R_alloc | apply Kd.R_drewN | apply Kd.R_drew)); exact Kd.R_mono (Kd.R_far (p := ⟨gb1, 7, none⟩) (Kd.R_far (p := ⟨gb1, 6, none⟩) (Kd.R_far (p := ⟨gb1, 5, none⟩) (Kd.R_far (p := ⟨gb1, 4, none⟩) (Kd.R_far (p := ⟨gb1, 3, none⟩) (Kd.R_far (p := ⟨gb1, 2, none⟩) (Kd.R_far (p := ⟨gb1, 1, none⟩) (Kd.R_far (p := ⟨gb1, 0, none⟩) (Kd.R_types HO10.out BK1.out (by decide)) (fun _ hk => hk.2) (.int .u32 t3)) (fun _ hk => hk.2) (.int .i64 t4)) (fun _ hk => hk.2) (.slice Ao10 t5.length co10)) (fun _ hk => hk.2) (.slice Ao11 t8.length co11)) (fun _ hk => hk.2) (.int .u32 t11)) (fun _ hk => hk.2) (.int .u32 t12)) (fun _ hk => hk.2) (.int .i64 t13)) (fun _ hk => hk.2) (.int .u32 t14)) (fun _ hk => hk.1)⟩, ⟨by (with_reducible repeat (first | refine blk_drewN ?_ _ | refine blk_drew ?_ | refine blk_alloc ?_ _)); refine blk_put (cs := #[.int .u32 t3, .int .i64 t4, .slice Ao10 t5.length co10, .slice Ao11 t8.length co11, .int .u32 t11, .int .u32 t12, .int .i64 t13, .int .u32 a1_7]) ?_ 7 _ rfl; (with_reducible repeat (first | refine blk_drewN ?_ _ | refine blk_drew ?_ | refine blk_alloc ?_ _)); refine blk_put (cs := #[.int .u32 t3, .int .i64 t4, .slice Ao10 t5.length co10, .slice Ao11 t8.length co11, .int .u32 t11, .int .u32 t12, .int .i64 a1_6, .int .u32 a1_7]) ?_ 6 _ rfl; (with_reducible repeat (first | refine blk_drewN ?_ _ | refine blk_drew ?_ | refine blk_alloc ?_ _)); refine blk_put (cs := #[.int .u32 t3, .int .i64 t4, .slice Ao10 t5.length co10, .slice Ao11 t8.length co11, .int .u32 t11, .int .u32 a1_5, .int .i64 a1_6, .int .u32 a1_7]) ?_ 5 _ rfl; (with_reducible repeat (first | refine blk_drewN ?_ _ | refine blk_drew ?_ | refine blk_alloc ?_ _)); refine blk_put (cs := #[.int .u32 t3, .int .i64 t4, .slice Ao10 t5.length co10, .slice Ao11 t8.length co11, .int .u32 a1_4, .int .u32 a1_5, .int .i64 a1_6, .int .u32 a1_7]) ?_ 4 _ rfl; (with_reducible repeat (first | refine blk_drewN ?_ _ | refine blk_drew ?_ | refine blk_alloc ?_ _)); refine blk_put (cs := #[.int .u32 t3, .int .i64 t4, .slice Ao10 t5.length co10, .slice A1_3 l1_3.length c1_3, .int .u32 a1_4, .int .u32 a1_5, .int .i64 a1_6, .int .u32 a1_7]) ?_ 3 _ rfl; (with_reducible repeat (first | refine blk_drewN ?_ _ | refine blk_drew ?_ | refine blk_alloc ?_ _)); refine blk_put (cs := #[.int .u32 t3, .int .i64 t4, .slice A1_2 l1_2.length c1_2, .slice A1_3 l1_3.length c1_3, .int .u32 a1_4, .int .u32 a1_5, .int .i64 a1_6, .int .u32 a1_7]) ?_ 2 _ rfl; (with_reducible repeat (first | refine blk_drewN ?_ _ | refine blk_drew ?_ | refine blk_alloc ?_ _)); refine blk_put (cs := #[.int .u32 t3, .int .i64 a1_1, .slice A1_2 l1_2.length c1_2, .slice A1_3 l1_3.length c1_3, .int .u32 a1_4, .int .u32 a1_5, .int .i64 a1_6, .int .u32 a1_7]) ?_ 1 _ rfl; (with_reducible repeat (first | refine blk_drewN ?_ _ | refine blk_drew ?_ | refine blk_alloc ?_ _)); refine blk_put (cs := #[.int .u32 a1_0, .int .i64 a1_1, .slice A1_2 l1_2.length c1_2, .slice A1_3 l1_3.length c1_3, .int .u32 a1_4, .int .u32 a1_5, .int .i64 a1_6, .int .u32 a1_7]) ?_ 0 _ rfl; (with_reducible repeat (first | refine blk_drewN ?_ _ | refine blk_drew ?_ | refine blk_alloc ?_ _)); exact BK1.out⟩, ⟨by (with_reducible repeat (first | refine blk_drewN ?_ _ | refine blk_drew ?_ | refine blk_alloc ?_ _)); refine blk_far ?_ NB2_1.out _; (with_reducible repeat (first | refine blk_drewN ?_ _ | refine blk_drew ?_ | refine blk_alloc ?_ _)); refine blk_far ?_ NB2_1.out _; (with_reducible repeat (first | refine blk_drewN ?_ _ | refine blk_drew ?_ | refine blk_alloc ?_ _)); refine blk_far ?_ NB2_1.out _; (with_reducible repeat (first | refine blk_drewN ?_ _ | refine blk_drew ?_ | refine blk_alloc ?_ _)); refine blk_far ?_ NB2_1.out _; (with_reducible repeat (first | refine blk_drewN ?_ _ | refine blk_drew ?_ | refine blk_alloc ?_ _)); refine blk_far ?_ NB2_1.out _; (with_reducible repeat (first | refine blk_drewN ?_ _ | refine blk_drew ?_ | refine blk_alloc ?_ _)); refine blk_far ?_ NB2_1.out _; (with_reducible repeat (first | refine blk_drewN ?_ _ | refine blk_drew ?_ | refine blk_alloc ?_ _)); refine blk_far ?_ NB2_1.out _; (with_reducible repeat (first | refine blk_drewN ?_ _ | refine blk_drew ?_ | refine blk_alloc ?_ _)); refine blk_far ?_ NB2_1.out _; (with_reducible repeat (first | refine blk_drewN ?_ _ | refine blk_drew ?_ | refine blk_alloc ?_ _)); exact BK2.out⟩, ⟨hbW HB⟩⟩
 case round =>
  clear H'
  try clear c1
  try clear c2
  try clear p2
  try clear c6
  try clear hcz7_0
  try clear hcz7_1
  try clear hcz7_2
  try clear hcz7_3
  try clear hcz7_4
  try clear hcz7_5
  try clear hcz7_6
  try clear hcz7_7
  try clear hcz9_0
  try clear hcz9_1
  try clear hcz9_2
  try clear hcz9_3
  try clear hcz9_4
  try clear hcz9_5
  try clear hcz9_6
  try clear hcz9_7
  try clear hfz7_0
  try clear hfz7_1
  try clear hfz7_2
  try clear hfz7_3
  try clear hfz7_4
  try clear hfz7_5
  try clear hfz7_6
  try clear hfz7_7
  try clear hfz9_0
  try clear hfz9_1
  try clear hfz9_2
  try clear hfz9_3
  try clear hfz9_4
  try clear hfz9_5
  try clear hfz9_6
  try clear hfz9_7
  obtain ⟨x11_1, x2000_1, x2001_1, x2002_1, x2003_1, x2004_1, x2005_1, x2006_1, x2007_1, u2002, u2003, rfl, HA, HK1, HO_2002, HO_2003, BK1, BK2, HB⟩ := hrel
  cases gk with
  | zero => exact absurd HA.out (by simp [q13z.l0])
  | succ k1 =>
   have H := HA.out
   clear HA
   simp only [q13z.l0] at H
   by_cases c12 : x11_1 < (l0.length : Int)
   ·
    rw [if_pos c12] at H
    have c12b0 : decide (x11_1 < (l0.length : Int)) = true := decide_eq_true c12
    clear c12
    by_cases c13 : 0 ≤ x11_1
    ·
     rw [if_pos c13] at H
     have c13b0 : decide (0 ≤ x11_1) = true := decide_eq_true c13
     clear c13
     by_cases c14 : x11_1 < (l0.length : Int)
     ·
      rw [if_pos c14] at H
      have c14b0 : decide (x11_1 < (l0.length : Int)) = true := decide_eq_true c14
      clear c14
      replace H := Option.bind_eq_some_iff.mp H
      obtain ⟨⟨t17, t18, t19, t22, t25, t26, t27, t28⟩, A150, H⟩ := H
      replace H : (q13z.l0 k1 l0 (l0.length : Int) (wrap64 (x11_1 + 1)) t17 t18 t19 t22 t25 t26 t27 t28) = some (r1, r2, r3, r4, r5, r6, r7, r8) := H
      have A15 := Aside0.mk A150
      clear A150
      have H' := Aside0.mk H
      clear H
      have p15 : 0 ≤ (x11_1 : Int) := of_decide_eq_true (by first | (with_reducible assumption) | assumption)
      have q15 : x11_1 < (l0.length : Int) := of_decide_eq_true (by first | (with_reducible assumption) | assumption)
      obtain ⟨ad15, A15_2, c15_2, A15_3, c15_3, e15, hx15_0, hx15_1, hx15_2, hx15_3, hl15_2, hi15_2, hl15_3, hi15_3⟩ := at_T26 HR0.out x11_1 p15 q15
      cases e15
      replace hx15_0 := (HB.out.cell (World.block_lt_of_cell? w _ hx15_0)).trans hx15_0
      replace hx15_1 := (HB.out.cell (World.block_lt_of_cell? w _ hx15_1)).trans hx15_1
      replace hx15_2 := (HB.out.cell (World.block_lt_of_cell? w _ hx15_2)).trans hx15_2
      replace hx15_3 := (HB.out.cell (World.block_lt_of_cell? w _ hx15_3)).trans hx15_3
      have HR15_2 := Aside0.mk hi15_2
      have HC15_2 := Aside0.mk hl15_2
      clear hi15_2 hl15_2
      have HR15_3 := Aside0.mk hi15_3
      have HC15_3 := Aside0.mk hl15_3
      clear hi15_3 hl15_3
      replace p15 := eq_true p15
      replace q15 := eq_true q15
      go_wp2_with (first | ((with_reducible refine gate_dst (N := 6) rfl ?_); refine box_event ?hg (N := 6) ?hd (cs := #[.int .i64 0, .int .u32 0, .slice none 0 0, .slice none 0 0]) (t := 26) ?hr ?_; (case hd => rfl); (case hg => rfl); (case hr => first | (go_simp; done) | (go_simp; rfl)); intro gb16 hg w16 hbox hb; have n0_ := Aside0.mk (Kd.R_below (rW HO_2002) hb); have n1_ := Aside0.mk (Kd.R_below (rW HO_2003) hb); have n2_ := bkB BK1 hb; have n3_ := bkB BK2 hb; have n4_ := hbS HB hb; have n5_ := Aside0.mk (hbox); have n6_ := Aside0.mk ((by rw [hg]; exact (below_size (hbW HB)) : w.heap.size ≤ gb16)); have n7_ := Aside0.mk ((by rw [hg]; exact (below_size (hbW HB)) : w.heap.size ≤ gb16)); have n8_ := Aside0.mk ((by rw [hg]; exact Nat.ne_of_lt (blk_lt (bkW BK1)) : gb1 ≠ gb16)); have n9_ := Aside0.mk ((by rw [hg]; exact Nat.ne_of_gt (blk_lt (bkW BK1)) : gb16 ≠ gb1)); have n10_ := Aside0.mk ((by rw [hg]; exact Nat.ne_of_lt (blk_lt (bkW BK2)) : gb2 ≠ gb16)); have n11_ := Aside0.mk ((by rw [hg]; exact Nat.ne_of_gt (blk_lt (bkW BK2)) : gb16 ≠ gb2)); clear HO_2002; clear HO_2003; clear BK1; clear BK2; clear HB; have HO_2002 := n0_; have HO_2003 := n1_; have BK1 := n2_; have BK2 := n3_; have HB := n4_; have BK16 := n5_; have GW16 := n6_; have GE16 := n7_; have NB1_16 := n8_; have NB16_1 := n9_; have NB2_16 := n10_; have NB16_2 := n11_; clear n0_ n1_ n2_ n3_ n4_ n5_ n6_ n7_ n8_ n9_ n10_ n11_; clear hb hbox hg; have hnb17 := NB16_1.out; have hnc17 := NB1_16.out; have hnb18 := NB16_2.out; have hnc18 := NB2_16.out; have hcz19_0 : w16.cell? ⟨gb16, 0, none⟩ = some (.int .i64 0) := (blk_cell BK16.out 0).trans rfl; have hcz19_1 : w16.cell? ⟨gb16, 1, none⟩ = some (.int .u32 0) := (blk_cell BK16.out 1).trans rfl; have hcz19_2 : w16.cell? ⟨gb16, 2, none⟩ = some (.slice none 0 0) := (blk_cell BK16.out 2).trans rfl; have hcz19_3 : w16.cell? ⟨gb16, 3, none⟩ = some (.slice none 0 0) := (blk_cell BK16.out 3).trans rfl; have hfz19_0 := blk_frozen BK16.out 0; have hfz19_1 := blk_frozen BK16.out 1; have hfz19_2 := blk_frozen BK16.out 2; have hfz19_3 := blk_frozen BK16.out 3) | ((with_reducible refine gate_store (t := 26) (p := 6) rfl ?_); refine store_event (t := 26) (p := 6) (v := ?vo_w20) (w1 := ((((w16.setCell ⟨gb16, 0, none⟩ (.int .i64 ((rd_T26 l0 x11_1).f0))).setCell ⟨gb16, 1, none⟩ (.int .u32 ((rd_T26 l0 x11_1).f1))).setCell ⟨gb16, 2, none⟩ (.slice A15_2 ((rd_T26 l0 x11_1).f2).length c15_2)).setCell ⟨gb16, 3, none⟩ (.slice A15_3 ((rd_T26 l0 x11_1).f3).length c15_3))) ?hg ?ho ?hn ?hr ?_; (case ho => rfl); (case hg => rfl); (case hn => rfl); (case hr => first | (go_simp; done) | (go_simp; rfl)); intro w20 hw; have n0_ : Aside0 (Kd.R (Kd.int .u32) 22 w20 w.heap.size (fun k_ => some k_ ≠ (u2003 : Value).ownBlock) u2002 x2002_1) := ⟨(by rw [hw]; exact (rW HO_2002))⟩; have n1_ : Aside0 (Kd.R (Kd.int .u32) 22 w20 w.heap.size (fun k_ => some k_ ≠ (u2002 : Value).ownBlock) u2003 x2003_1) := ⟨(by rw [hw]; exact (rW HO_2003))⟩; have n2_ : Aside0 (w20.heap[gb1]? = some (.cells #[.int .u32 x2000_1, .int .i64 x2001_1, u2002, u2003, .int .u32 x2004_1, .int .u32 x2005_1, .int .i64 x2006_1, .int .u32 x2007_1] 30 (0, 0))) := ⟨(by rw [hw]; exact (by (with_reducible repeat (first | refine blk_drewN ?_ _ | refine blk_drew ?_ | refine blk_alloc ?_ _)); refine blk_far ?_ NB1_16.out _; (with_reducible repeat (first | refine blk_drewN ?_ _ | refine blk_drew ?_ | refine blk_alloc ?_ _)); refine blk_far ?_ NB1_16.out _; (with_reducible repeat (first | refine blk_drewN ?_ _ | refine blk_drew ?_ | refine blk_alloc ?_ _)); refine blk_far ?_ NB1_16.out _; (with_reducible repeat (first | refine blk_drewN ?_ _ | refine blk_drew ?_ | refine blk_alloc ?_ _)); refine blk_far ?_ NB1_16.out _; (with_reducible repeat (first | refine blk_drewN ?_ _ | refine blk_drew ?_ | refine blk_alloc ?_ _)); exact BK1.out))⟩; have n3_ : Aside0 (w20.heap[gb2]? = some (.cells #[.int .u32 0, .int .i64 0, .slice none 0 0, .slice none 0 0, .int .u32 0, .int .u32 0, .int .i64 0, .int .u32 0] 30 (0, 0))) := ⟨(by rw [hw]; exact (by (with_reducible repeat (first | refine blk_drewN ?_ _ | refine blk_drew ?_ | refine blk_alloc ?_ _)); refine blk_far ?_ NB2_16.out _; (with_reducible repeat (first | refine blk_drewN ?_ _ | refine blk_drew ?_ | refine blk_alloc ?_ _)); refine blk_far ?_ NB2_16.out _; (with_reducible repeat (first | refine blk_drewN ?_ _ | refine blk_drew ?_ | refine blk_alloc ?_ _)); refine blk_far ?_ NB2_16.out _; (with_reducible repeat (first | refine blk_drewN ?_ _ | refine blk_drew ?_ | refine blk_alloc ?_ _)); refine blk_far ?_ NB2_16.out _; (with_reducible repeat (first | refine blk_drewN ?_ _ | refine blk_drew ?_ | refine blk_alloc ?_ _)); exact BK2.out))⟩; have n4_ : Aside0 (w20.heap[gb16]? = some (.cells #[.int .i64 ((rd_T26 l0 x11_1).f0), .int .u32 ((rd_T26 l0 x11_1).f1), .slice A15_2 ((rd_T26 l0 x11_1).f2).length c15_2, .slice A15_3 ((rd_T26 l0 x11_1).f3).length c15_3] 26 (0, 0))) := ⟨(by rw [hw]; exact (bp4 BK16))⟩; have n5_ : Aside0 (Below w.heap.size w w20) := ⟨(by rw [hw]; exact (hbW HB))⟩; clear hw; clear HO_2002; clear HO_2003; clear BK1; clear BK2; clear BK16; clear HB; have HO_2002 := n0_; have HO_2003 := n1_; have BK1 := n2_; have BK2 := n3_; have BK16 := n4_; have HB := n5_; clear n0_ n1_ n2_ n3_ n4_ n5_; have hcz21_0 : w20.cell? ⟨gb16, 0, none⟩ = some (.int .i64 ((rd_T26 l0 x11_1).f0)) := (blk_cell BK16.out 0).trans rfl; have hcz21_1 : w20.cell? ⟨gb16, 1, none⟩ = some (.int .u32 ((rd_T26 l0 x11_1).f1)) := (blk_cell BK16.out 1).trans rfl; have hcz21_2 : w20.cell? ⟨gb16, 2, none⟩ = some (.slice A15_2 ((rd_T26 l0 x11_1).f2).length c15_2) := (blk_cell BK16.out 2).trans rfl; have hcz21_3 : w20.cell? ⟨gb16, 3, none⟩ = some (.slice A15_3 ((rd_T26 l0 x11_1).f3).length c15_3) := (blk_cell BK16.out 3).trans rfl; have hfz21_0 := blk_frozen BK16.out 0; have hfz21_1 := blk_frozen BK16.out 1; have hfz21_2 := blk_frozen BK16.out 2; have hfz21_3 := blk_frozen BK16.out 3; have hnb22 := NB1_2.out; have hnc22 := NB2_1.out; have hcz23_0 : w20.cell? ⟨gb1, 0, none⟩ = some (.int .u32 x2000_1) := (blk_cell BK1.out 0).trans rfl; have hcz23_1 : w20.cell? ⟨gb1, 1, none⟩ = some (.int .i64 x2001_1) := (blk_cell BK1.out 1).trans rfl; have hcz23_2 : w20.cell? ⟨gb1, 2, none⟩ = some (u2002) := (blk_cell BK1.out 2).trans rfl; have hcz23_3 : w20.cell? ⟨gb1, 3, none⟩ = some (u2003) := (blk_cell BK1.out 3).trans rfl; have hcz23_4 : w20.cell? ⟨gb1, 4, none⟩ = some (.int .u32 x2004_1) := (blk_cell BK1.out 4).trans rfl; have hcz23_5 : w20.cell? ⟨gb1, 5, none⟩ = some (.int .u32 x2005_1) := (blk_cell BK1.out 5).trans rfl; have hcz23_6 : w20.cell? ⟨gb1, 6, none⟩ = some (.int .i64 x2006_1) := (blk_cell BK1.out 6).trans rfl; have hcz23_7 : w20.cell? ⟨gb1, 7, none⟩ = some (.int .u32 x2007_1) := (blk_cell BK1.out 7).trans rfl; have hfz23_0 := blk_frozen BK1.out 0; have hfz23_1 := blk_frozen BK1.out 1; have hfz23_2 := blk_frozen BK1.out 2; have hfz23_3 := blk_frozen BK1.out 3; have hfz23_4 := blk_frozen BK1.out 4; have hfz23_5 := blk_frozen BK1.out 5; have hfz23_6 := blk_frozen BK1.out 6; have hfz23_7 := blk_frozen BK1.out 7; obtain ⟨Ao24, co24, eo24⟩ := Kd.R_slice HO_2002.out; subst eo24; obtain ⟨Ao25, co25, eo25⟩ := Kd.R_slice HO_2003.out; subst eo25) | ((with_reducible refine gate_callee (f := 13) rfl ?_); refine goesL_ (some 17) rfl rfl Try.func13 (by kernel_rfl) rfl #[.agg #[.int .i64 ((rd_T26 l0 x11_1).f0), .int .u32 ((rd_T26 l0 x11_1).f1), .slice A15_2 ((rd_T26 l0 x11_1).f2).length c15_2, .slice A15_3 ((rd_T26 l0 x11_1).f3).length c15_3], .agg #[.int .u32 x2000_1, .int .i64 x2001_1, .slice Ao24 x2002_1.length co24, .slice Ao25 x2003_1.length co25, .int .u32 x2004_1, .int .u32 x2005_1, .int .i64 x2006_1, .int .u32 x2007_1]] rfl (by (try simp only [List.map_toArray, List.map_cons, List.map_nil]); first | done | rfl | (simp only [List.length_drop, List.length_take]; rfl)) ?_; (with_reducible refine (q9z.calls k1 ((rd_T26 l0 x11_1).f0) ((rd_T26 l0 x11_1).f1) (fun k_ => k_ < w.heap.size) _ _ ((rd_T26 l0 x11_1).f2) _ _ ((rd_T26 l0 x11_1).f3) x2000_1 x2001_1 _ _ x2002_1 _ _ x2003_1 x2004_1 x2005_1 x2006_1 x2007_1 t17 t18 t19 t22 t25 t26 t27 t28 _ ?side1 ?side2 ?side3 ?side4 ?side5 ?side6 ?side7 A15.out).mono ?_); (case side1 => exact Kd.V_mk HC15_2.out (Kd.F_below (Kd.C_F (Kd.heap_int .u32) HR15_2.out) (hbW HB))); (case side2 => repeat (first | exact (Kd.C_below HR15_3.out HB.out) | (with_reducible refine Kd.C_alloc ?_ _) | (with_reducible refine Kd.C_drewN ?_ _) | (with_reducible refine Kd.C_drew ?_))); (case side3 => exact HC15_3.out); (case side4 => repeat (first | exact (Kd.R_reads' HO_2002.out).2.2 | (with_reducible refine Kd.C_alloc ?_ _) | (with_reducible refine Kd.C_drewN ?_ _) | (with_reducible refine Kd.C_drew ?_))); (case side5 => exact (Kd.R_reads' HO_2002.out).2.1); (case side6 => repeat (first | exact (Kd.R_reads' HO_2003.out).2.2 | (with_reducible refine Kd.C_alloc ?_ _) | (with_reducible refine Kd.C_drewN ?_ _) | (with_reducible refine Kd.C_drew ?_))); (case side7 => exact (Kd.R_reads' HO_2003.out).2.1); rintro e w26 ⟨v20, v23, rfl, ho0, ho1, hb⟩; refine ⟨_, rfl, ?_⟩; have n0_ := Aside0.mk (Kd.R_mono (Kd.R_told (Kd.R_told (Kd.R_old (rW HO_2002) hb) (Kd.R_base ho0)) (Kd.R_base ho1)) (fun _ h_ => h_.1)); have n1_ := Aside0.mk (Kd.R_mono (Kd.R_told (Kd.R_told (Kd.R_old (rW HO_2003) hb) (Kd.R_base ho0)) (Kd.R_base ho1)) (fun _ h_ => h_.1)); have n2_ := Aside0.mk (Kd.R_lower (Kd.R_new' (Kd.R_new' (Kd.R_mono (ok' := fun k_ => some k_ ≠ (v23 : Value).ownBlock) ho0 (fun _ hk_ => hk_.2)) (Kd.R_lt (rW HO_2002))) (Kd.R_lt (rW HO_2003))) (below_size (hbW HB))); have n3_ := Aside0.mk (Kd.R_lower (Kd.R_new' (Kd.R_new' (Kd.R_mono (ok' := fun k_ => some k_ ≠ (v20 : Value).ownBlock) ho1 (fun _ hk_ => hk_.2)) (Kd.R_lt (rW HO_2002))) (Kd.R_lt (rW HO_2003))) (below_size (hbW HB))); have n4_ := bkB BK1 hb; have n5_ := bkB BK2 hb; have n6_ := bkB BK16 hb; have n7_ := hbS HB hb; clear HO_2002; clear HO_2003; clear BK1; clear BK2; clear BK16; clear HB; have HO_2002 := n0_; have HO_2003 := n1_; have HO21 := n2_; have HO24 := n3_; have BK1 := n4_; have BK2 := n5_; have BK16 := n6_; have HB := n7_; clear n0_ n1_ n2_ n3_ n4_ n5_ n6_ n7_; (try clear hb); (try clear hb2); (try clear hk); (try clear hi); (try clear ho0); (try clear ho1); have hcz27_0 : w26.cell? ⟨gb1, 0, none⟩ = some (.int .u32 x2000_1) := (blk_cell BK1.out 0).trans rfl; have hcz27_1 : w26.cell? ⟨gb1, 1, none⟩ = some (.int .i64 x2001_1) := (blk_cell BK1.out 1).trans rfl; have hcz27_2 : w26.cell? ⟨gb1, 2, none⟩ = some (.slice Ao24 x2002_1.length co24) := (blk_cell BK1.out 2).trans rfl; have hcz27_3 : w26.cell? ⟨gb1, 3, none⟩ = some (.slice Ao25 x2003_1.length co25) := (blk_cell BK1.out 3).trans rfl; have hcz27_4 : w26.cell? ⟨gb1, 4, none⟩ = some (.int .u32 x2004_1) := (blk_cell BK1.out 4).trans rfl; have hcz27_5 : w26.cell? ⟨gb1, 5, none⟩ = some (.int .u32 x2005_1) := (blk_cell BK1.out 5).trans rfl; have hcz27_6 : w26.cell? ⟨gb1, 6, none⟩ = some (.int .i64 x2006_1) := (blk_cell BK1.out 6).trans rfl; have hcz27_7 : w26.cell? ⟨gb1, 7, none⟩ = some (.int .u32 x2007_1) := (blk_cell BK1.out 7).trans rfl; have hfz27_0 := blk_frozen BK1.out 0; have hfz27_1 := blk_frozen BK1.out 1; have hfz27_2 := blk_frozen BK1.out 2; have hfz27_3 := blk_frozen BK1.out 3; have hfz27_4 := blk_frozen BK1.out 4; have hfz27_5 := blk_frozen BK1.out 5; have hfz27_6 := blk_frozen BK1.out 6; have hfz27_7 := blk_frozen BK1.out 7; obtain ⟨Ao28, co28, eo28⟩ := Kd.R_slice HO21.out; subst eo28; obtain ⟨Ao29, co29, eo29⟩ := Kd.R_slice HO24.out; subst eo29))
      go_roundg k1
      case measure => have := HK1.out; omega
      case rel => exact ⟨(wrap64 (x11_1 + 1)), (t17), (t18), (t19), (t22), (t25), (t26), (t27), (t28), (.slice Ao28 t19.length co28), (.slice Ao29 t22.length co29), (by first | rfl | (simp; done) | (simp [*]; done)), H', ⟨by have := HK1.out; omega⟩, ⟨by (with_reducible repeat (first | apply Kd.R_alloc | apply Kd.R_drewN | apply Kd.R_drew)); exact Kd.R_mono (Kd.R_far (p := ⟨gb1, 7, none⟩) (Kd.R_far (p := ⟨gb1, 6, none⟩) (Kd.R_far (p := ⟨gb1, 5, none⟩) (Kd.R_far (p := ⟨gb1, 4, none⟩) (Kd.R_far (p := ⟨gb1, 3, none⟩) (Kd.R_far (p := ⟨gb1, 2, none⟩) (Kd.R_far (p := ⟨gb1, 1, none⟩) (Kd.R_far (p := ⟨gb1, 0, none⟩) (Kd.R_types HO21.out BK1.out (by decide)) (fun _ hk => hk.2) (.int .u32 t17)) (fun _ hk => hk.2) (.int .i64 t18)) (fun _ hk => hk.2) (.slice Ao28 t19.length co28)) (fun _ hk => hk.2) (.slice Ao29 t22.length co29)) (fun _ hk => hk.2) (.int .u32 t25)) (fun _ hk => hk.2) (.int .u32 t26)) (fun _ hk => hk.2) (.int .i64 t27)) (fun _ hk => hk.2) (.int .u32 t28)) (fun _ hk => hk.1.1.1)⟩, ⟨by (with_reducible repeat (first | apply Kd.R_alloc | apply Kd.R_drewN | apply Kd.R_drew)); exact Kd.R_mono (Kd.R_far (p := ⟨gb1, 7, none⟩) (Kd.R_far (p := ⟨gb1, 6, none⟩) (Kd.R_far (p := ⟨gb1, 5, none⟩) (Kd.R_far (p := ⟨gb1, 4, none⟩) (Kd.R_far (p := ⟨gb1, 3, none⟩) (Kd.R_far (p := ⟨gb1, 2, none⟩) (Kd.R_far (p := ⟨gb1, 1, none⟩) (Kd.R_far (p := ⟨gb1, 0, none⟩) (Kd.R_types HO24.out BK1.out (by decide)) (fun _ hk => hk.2) (.int .u32 t17)) (fun _ hk => hk.2) (.int .i64 t18)) (fun _ hk => hk.2) (.slice Ao28 t19.length co28)) (fun _ hk => hk.2) (.slice Ao29 t22.length co29)) (fun _ hk => hk.2) (.int .u32 t25)) (fun _ hk => hk.2) (.int .u32 t26)) (fun _ hk => hk.2) (.int .i64 t27)) (fun _ hk => hk.2) (.int .u32 t28)) (fun _ hk => hk.1.1.1)⟩, ⟨by (with_reducible repeat (first | refine blk_drewN ?_ _ | refine blk_drew ?_ | refine blk_alloc ?_ _)); refine blk_put (cs := #[.int .u32 t17, .int .i64 t18, .slice Ao28 t19.length co28, .slice Ao29 t22.length co29, .int .u32 t25, .int .u32 t26, .int .i64 t27, .int .u32 x2007_1]) ?_ 7 _ rfl; (with_reducible repeat (first | refine blk_drewN ?_ _ | refine blk_drew ?_ | refine blk_alloc ?_ _)); refine blk_put (cs := #[.int .u32 t17, .int .i64 t18, .slice Ao28 t19.length co28, .slice Ao29 t22.length co29, .int .u32 t25, .int .u32 t26, .int .i64 x2006_1, .int .u32 x2007_1]) ?_ 6 _ rfl; (with_reducible repeat (first | refine blk_drewN ?_ _ | refine blk_drew ?_ | refine blk_alloc ?_ _)); refine blk_put (cs := #[.int .u32 t17, .int .i64 t18, .slice Ao28 t19.length co28, .slice Ao29 t22.length co29, .int .u32 t25, .int .u32 x2005_1, .int .i64 x2006_1, .int .u32 x2007_1]) ?_ 5 _ rfl; (with_reducible repeat (first | refine blk_drewN ?_ _ | refine blk_drew ?_ | refine blk_alloc ?_ _)); refine blk_put (cs := #[.int .u32 t17, .int .i64 t18, .slice Ao28 t19.length co28, .slice Ao29 t22.length co29, .int .u32 x2004_1, .int .u32 x2005_1, .int .i64 x2006_1, .int .u32 x2007_1]) ?_ 4 _ rfl; (with_reducible repeat (first | refine blk_drewN ?_ _ | refine blk_drew ?_ | refine blk_alloc ?_ _)); refine blk_put (cs := #[.int .u32 t17, .int .i64 t18, .slice Ao28 t19.length co28, .slice Ao25 x2003_1.length co25, .int .u32 x2004_1, .int .u32 x2005_1, .int .i64 x2006_1, .int .u32 x2007_1]) ?_ 3 _ rfl; (with_reducible repeat (first | refine blk_drewN ?_ _ | refine blk_drew ?_ | refine blk_alloc ?_ _)); refine blk_put (cs := #[.int .u32 t17, .int .i64 t18, .slice Ao24 x2002_1.length co24, .slice Ao25 x2003_1.length co25, .int .u32 x2004_1, .int .u32 x2005_1, .int .i64 x2006_1, .int .u32 x2007_1]) ?_ 2 _ rfl; (with_reducible repeat (first | refine blk_drewN ?_ _ | refine blk_drew ?_ | refine blk_alloc ?_ _)); refine blk_put (cs := #[.int .u32 t17, .int .i64 x2001_1, .slice Ao24 x2002_1.length co24, .slice Ao25 x2003_1.length co25, .int .u32 x2004_1, .int .u32 x2005_1, .int .i64 x2006_1, .int .u32 x2007_1]) ?_ 1 _ rfl; (with_reducible repeat (first | refine blk_drewN ?_ _ | refine blk_drew ?_ | refine blk_alloc ?_ _)); refine blk_put (cs := #[.int .u32 x2000_1, .int .i64 x2001_1, .slice Ao24 x2002_1.length co24, .slice Ao25 x2003_1.length co25, .int .u32 x2004_1, .int .u32 x2005_1, .int .i64 x2006_1, .int .u32 x2007_1]) ?_ 0 _ rfl; (with_reducible repeat (first | refine blk_drewN ?_ _ | refine blk_drew ?_ | refine blk_alloc ?_ _)); exact BK1.out⟩, ⟨by (with_reducible repeat (first | refine blk_drewN ?_ _ | refine blk_drew ?_ | refine blk_alloc ?_ _)); refine blk_far ?_ NB2_1.out _; (with_reducible repeat (first | refine blk_drewN ?_ _ | refine blk_drew ?_ | refine blk_alloc ?_ _)); refine blk_far ?_ NB2_1.out _; (with_reducible repeat (first | refine blk_drewN ?_ _ | refine blk_drew ?_ | refine blk_alloc ?_ _)); refine blk_far ?_ NB2_1.out _; (with_reducible repeat (first | refine blk_drewN ?_ _ | refine blk_drew ?_ | refine blk_alloc ?_ _)); refine blk_far ?_ NB2_1.out _; (with_reducible repeat (first | refine blk_drewN ?_ _ | refine blk_drew ?_ | refine blk_alloc ?_ _)); refine blk_far ?_ NB2_1.out _; (with_reducible repeat (first | refine blk_drewN ?_ _ | refine blk_drew ?_ | refine blk_alloc ?_ _)); refine blk_far ?_ NB2_1.out _; (with_reducible repeat (first | refine blk_drewN ?_ _ | refine blk_drew ?_ | refine blk_alloc ?_ _)); refine blk_far ?_ NB2_1.out _; (with_reducible repeat (first | refine blk_drewN ?_ _ | refine blk_drew ?_ | refine blk_alloc ?_ _)); refine blk_far ?_ NB2_1.out _; (with_reducible repeat (first | refine blk_drewN ?_ _ | refine blk_drew ?_ | refine blk_alloc ?_ _)); exact BK2.out⟩, ⟨hbW HB⟩⟩
     ·
      rw [if_neg c14] at H
      exact absurd H (by simp)
    ·
     rw [if_neg c13] at H
     exact absurd H (by simp)
   ·
    rw [if_neg c12] at H
    have c12b0 : decide (x11_1 < (l0.length : Int)) = false := decide_eq_false c12
    clear c12
    simp only [Option.some.injEq, Prod.mk.injEq] at H
    obtain ⟨rfl, rfl, rfl, rfl, rfl, rfl, rfl, rfl⟩ := H
    have hnb30 := NB1_2.out
    have hnc30 := NB2_1.out
    have hcz31_0 : wr.cell? ⟨gb1, 0, none⟩ = some (.int .u32 x2000_1) := (blk_cell BK1.out 0).trans rfl
    have hcz31_1 : wr.cell? ⟨gb1, 1, none⟩ = some (.int .i64 x2001_1) := (blk_cell BK1.out 1).trans rfl
    have hcz31_2 : wr.cell? ⟨gb1, 2, none⟩ = some (u2002) := (blk_cell BK1.out 2).trans rfl
    have hcz31_3 : wr.cell? ⟨gb1, 3, none⟩ = some (u2003) := (blk_cell BK1.out 3).trans rfl
    have hcz31_4 : wr.cell? ⟨gb1, 4, none⟩ = some (.int .u32 x2004_1) := (blk_cell BK1.out 4).trans rfl
    have hcz31_5 : wr.cell? ⟨gb1, 5, none⟩ = some (.int .u32 x2005_1) := (blk_cell BK1.out 5).trans rfl
    have hcz31_6 : wr.cell? ⟨gb1, 6, none⟩ = some (.int .i64 x2006_1) := (blk_cell BK1.out 6).trans rfl
    have hcz31_7 : wr.cell? ⟨gb1, 7, none⟩ = some (.int .u32 x2007_1) := (blk_cell BK1.out 7).trans rfl
    have hfz31_0 := blk_frozen BK1.out 0
    have hfz31_1 := blk_frozen BK1.out 1
    have hfz31_2 := blk_frozen BK1.out 2
    have hfz31_3 := blk_frozen BK1.out 3
    have hfz31_4 := blk_frozen BK1.out 4
    have hfz31_5 := blk_frozen BK1.out 5
    have hfz31_6 := blk_frozen BK1.out 6
    have hfz31_7 := blk_frozen BK1.out 7
    have hcz32_0 : wr.cell? ⟨gb2, 0, none⟩ = some (.int .u32 0) := (blk_cell BK2.out 0).trans rfl
    have hcz32_1 : wr.cell? ⟨gb2, 1, none⟩ = some (.int .i64 0) := (blk_cell BK2.out 1).trans rfl
    have hcz32_2 : wr.cell? ⟨gb2, 2, none⟩ = some (.slice none 0 0) := (blk_cell BK2.out 2).trans rfl
    have hcz32_3 : wr.cell? ⟨gb2, 3, none⟩ = some (.slice none 0 0) := (blk_cell BK2.out 3).trans rfl
    have hcz32_4 : wr.cell? ⟨gb2, 4, none⟩ = some (.int .u32 0) := (blk_cell BK2.out 4).trans rfl
    have hcz32_5 : wr.cell? ⟨gb2, 5, none⟩ = some (.int .u32 0) := (blk_cell BK2.out 5).trans rfl
    have hcz32_6 : wr.cell? ⟨gb2, 6, none⟩ = some (.int .i64 0) := (blk_cell BK2.out 6).trans rfl
    have hcz32_7 : wr.cell? ⟨gb2, 7, none⟩ = some (.int .u32 0) := (blk_cell BK2.out 7).trans rfl
    have hfz32_0 := blk_frozen BK2.out 0
    have hfz32_1 := blk_frozen BK2.out 1
    have hfz32_2 := blk_frozen BK2.out 2
    have hfz32_3 := blk_frozen BK2.out 3
    have hfz32_4 := blk_frozen BK2.out 4
    have hfz32_5 := blk_frozen BK2.out 5
    have hfz32_6 := blk_frozen BK2.out 6
    have hfz32_7 := blk_frozen BK2.out 7
    obtain ⟨Ao33, co33, eo33⟩ := Kd.R_slice HO_2002.out
    subst eo33
    obtain ⟨Ao34, co34, eo34⟩ := Kd.R_slice HO_2003.out
    subst eo34
    go_wp2
    refine bodyPost_ret (results_cell_row rfl _ _ gb2 30 #[.int .u32 x2000_1, .int .i64 x2001_1, .slice Ao33 x2002_1.length co33, .slice Ao34 x2003_1.length co34, .int .u32 x2004_1, .int .u32 x2005_1, .int .i64 x2006_1, .int .u32 x2007_1] (0, 0) _ rfl (bp8 BK2) Try.underlying30 rfl (by kernel_rfl)) rfl ?_
    exact ⟨_, _, by first | rfl | (simp [errW_none, errW_some] <;> rfl) | (simp [*, errW_none, errW_some] <;> rfl), by (with_reducible repeat (first | apply Kd.R_alloc | apply Kd.R_drewN | apply Kd.R_drew)); exact Kd.R_mono (Kd.R_far (p := ⟨gb2, 7, none⟩) (Kd.R_far (p := ⟨gb2, 6, none⟩) (Kd.R_far (p := ⟨gb2, 5, none⟩) (Kd.R_far (p := ⟨gb2, 4, none⟩) (Kd.R_far (p := ⟨gb2, 3, none⟩) (Kd.R_far (p := ⟨gb2, 2, none⟩) (Kd.R_far (p := ⟨gb2, 1, none⟩) (Kd.R_far (p := ⟨gb2, 0, none⟩) (Kd.R_types HO_2002.out BK2.out (by decide)) (fun _ hk => hk.2) (.int .u32 x2000_1)) (fun _ hk => hk.2) (.int .i64 x2001_1)) (fun _ hk => hk.2) (.slice Ao33 x2002_1.length co33)) (fun _ hk => hk.2) (.slice Ao34 x2003_1.length co34)) (fun _ hk => hk.2) (.int .u32 x2004_1)) (fun _ hk => hk.2) (.int .u32 x2005_1)) (fun _ hk => hk.2) (.int .i64 x2006_1)) (fun _ hk => hk.2) (.int .u32 x2007_1)) (fun _ hk => hk.1), by (with_reducible repeat (first | apply Kd.R_alloc | apply Kd.R_drewN | apply Kd.R_drew)); exact Kd.R_mono (Kd.R_far (p := ⟨gb2, 7, none⟩) (Kd.R_far (p := ⟨gb2, 6, none⟩) (Kd.R_far (p := ⟨gb2, 5, none⟩) (Kd.R_far (p := ⟨gb2, 4, none⟩) (Kd.R_far (p := ⟨gb2, 3, none⟩) (Kd.R_far (p := ⟨gb2, 2, none⟩) (Kd.R_far (p := ⟨gb2, 1, none⟩) (Kd.R_far (p := ⟨gb2, 0, none⟩) (Kd.R_types HO_2003.out BK2.out (by decide)) (fun _ hk => hk.2) (.int .u32 x2000_1)) (fun _ hk => hk.2) (.int .i64 x2001_1)) (fun _ hk => hk.2) (.slice Ao33 x2002_1.length co33)) (fun _ hk => hk.2) (.slice Ao34 x2003_1.length co34)) (fun _ hk => hk.2) (.int .u32 x2004_1)) (fun _ hk => hk.2) (.int .u32 x2005_1)) (fun _ hk => hk.2) (.int .i64 x2006_1)) (fun _ hk => hk.2) (.int .u32 x2007_1)) (fun _ hk => hk.1), hbW HB⟩

end Go.Proofs.Ytgelpccjdndfoaa.P

namespace Go.Proofs.Ytgelpccjdndfoaa.P
open Go.RowKit Go.Proofs.YtgelpccjdndfoaaW.PrintWords Go.Proofs.YtgelpccjdndfoaaW.PrintLast Go.Proofs.YtgelpccjdndfoaaW.PrintMore
attribute [local go_sem] max2_int min2_int max_two min_two max_three min_three max_four min_four
set_option linter.unusedVariables false
set_option linter.unusedSimpArgs false

/-! ### dragomanref11_CommsRight: function 34 -/
def q14z.l0 : Nat → List (S53) → Int → Int → Option (Bool)
 | 0, _, _, _ => none
 | k + 1, x8, x9, x10 => if x10 < x9 then (if 0 ≤ x10 then (if x10 < (x8.length : Int) then (if (((rd_T53 x8 x10).f1).length : Int) > 64 then (some false) else (q14z.l0 k x8 x9 (wrap64 (x10 + 1)))) else (none)) else (none)) else (some true)
def q14z.f (k : Nat) (l0 : List (S53)) : Option (Bool) := if (l0.length : Int) > 64 then (some false) else (q14z.l0 k l0 (l0.length : Int) 0)
theorem q14z.mono_l : ∀ k, (∀ y0 y1 y2, LeO (q14z.l0 k y0 y1 y2) (q14z.l0 (k + 1) y0 y1 y2))
 | 0 => fun _ _ _ r h => by simp [q14z.l0] at h
 | k + 1 => by
  have ih0 := q14z.mono_l k
  ·
   intro y0 y1 y2
   unfold q14z.l0
   repeat' first
   | (with_reducible exact ih0 _ _ _)
   | (with_reducible exact LeO.refl _)
   | (with_reducible exact LeO.none _)
   | (with_reducible refine LeO.ite ?_ ?_)
   | (with_reducible refine LeO.bind ?_ (fun _ => ?_))
   | exact ih0 _ _ _
   | exact LeO.none _
   | refine LeO.ite ?_ ?_
   | refine LeO.bind ?_ (fun _ => ?_)
theorem q14z.mono : ∀ a0 k, LeO (q14z.f k a0) (q14z.f (k + 1) a0) := by
 intro a0 k
 have ih0 := q14z.mono_l k
 unfold q14z.f
 repeat' first
   | (with_reducible exact ih0 _ _ _)
   | (with_reducible exact LeO.refl _)
   | (with_reducible exact LeO.none _)
   | (with_reducible refine LeO.ite ?_ ?_)
   | (with_reducible refine LeO.bind ?_ (fun _ => ?_))
   | exact ih0 _ _ _
   | exact LeO.none _
   | refine LeO.ite ?_ ?_
   | refine LeO.bind ?_ (fun _ => ?_)
set_option maxHeartbeats 8000000 in
set_option maxRecDepth 100000 in
theorem q14z.calls (k : Nat) (A0 : Option Addr) (c0 : Nat) (l0 : List (S53)) (r : Bool) (w : World) (hr0 : Kd.C k53 w A0 l0.length l0) (hc0 : l0.length ≤ c0) (h : q14z.f k l0 = some r) :
  Calls Try.prog 34 #[.slice A0 l0.length c0] w fun e w' => e = .returned (.bool r) ∧ Below w.heap.size w w' := by
 have hu53 := Try.underlying53
 have HR0 := Aside0.mk hr0
 have HC0 := Aside0.mk hc0
 clear hr0 hc0
 have HB := Aside0.mk (Below.refl w.heap.size w)
 have H : (if (l0.length : Int) > 64 then (some false) else (q14z.l0 k l0 (l0.length : Int) 0)) = some r := h
 clear h
 by_cases c2 : (l0.length : Int) > 64
 ·
  rw [if_pos c2] at H
  have c2b0 : decide (64 < (l0.length : Int)) = true := decide_eq_true c2
  have c2b1 : decide (64 < l0.length) = true := decide_eq_true (by omega)
  clear c2
  obtain rfl := Option.some.inj H
  go_enter Try.func34, Try.ntmps34
  go_wp2
  go_ret
  exact ⟨by first | rfl | (simp [errW_none, errW_some] <;> rfl) | (simp [*, errW_none, errW_some] <;> rfl), hbW HB⟩
 ·
  rw [if_neg c2] at H
  have c2b0 : decide (64 < (l0.length : Int)) = false := decide_eq_false c2
  have c2b1 : decide (64 < l0.length) = false := decide_eq_false (by omega)
  clear c2
  have H' := Aside0.mk H
  clear H
  go_enter Try.func34, Try.ntmps34
  go_wp2
  go_loopg [10] k (fun kq v10 w' => ∃ (x10_1 : Int), v10 = .int .i64 x10_1 ∧ Aside0 (q14z.l0 kq l0 (l0.length : Int) x10_1 = some r) ∧ Aside0 (kq ≤ k) ∧ Aside0 (Below w.heap.size w w'))
  case atStart => exact ⟨(0), (by first | rfl | (simp; done) | (simp [*]; done)), H', ⟨Nat.le_refl _⟩, ⟨hbW HB⟩⟩
  case round =>
   clear H'
   try clear c2
   try clear c2b0
   try clear c2b1
   try clear p2
   obtain ⟨x10_1, rfl, HA, HK1, HB⟩ := hrel
   cases gk with
   | zero => exact absurd HA.out (by simp [q14z.l0])
   | succ k1 =>
    have H := HA.out
    clear HA
    simp only [q14z.l0] at H
    by_cases c3 : x10_1 < (l0.length : Int)
    ·
     rw [if_pos c3] at H
     have c3b0 : decide (x10_1 < (l0.length : Int)) = true := decide_eq_true c3
     clear c3
     by_cases c4 : 0 ≤ x10_1
     ·
      rw [if_pos c4] at H
      have c4b0 : decide (0 ≤ x10_1) = true := decide_eq_true c4
      clear c4
      by_cases c5 : x10_1 < (l0.length : Int)
      ·
       rw [if_pos c5] at H
       have c5b0 : decide (x10_1 < (l0.length : Int)) = true := decide_eq_true c5
       clear c5
       by_cases c6 : (((rd_T53 l0 x10_1).f1).length : Int) > 64
       ·
        rw [if_pos c6] at H
        have c6b0 : decide (64 < (((rd_T53 l0 x10_1).f1).length : Int)) = true := decide_eq_true c6
        have c6b1 : decide (64 < ((rd_T53 l0 x10_1).f1).length) = true := decide_eq_true (by omega)
        clear c6
        obtain rfl := Option.some.inj H
        have p1 : 0 ≤ (x10_1 : Int) := of_decide_eq_true (by first | (with_reducible assumption) | assumption)
        have q1 : x10_1 < (l0.length : Int) := of_decide_eq_true (by first | (with_reducible assumption) | assumption)
        obtain ⟨ad1, A1_1, c1_1, e1, hx1_0, hx1_1, hl1_1, hi1_1⟩ := at_T53 HR0.out x10_1 p1 q1
        cases e1
        replace hx1_0 := (HB.out.cell (World.block_lt_of_cell? w _ hx1_0)).trans hx1_0
        replace hx1_1 := (HB.out.cell (World.block_lt_of_cell? w _ hx1_1)).trans hx1_1
        have HR1_1 := Aside0.mk hi1_1
        have HC1_1 := Aside0.mk hl1_1
        clear hi1_1 hl1_1
        replace p1 := eq_true p1
        replace q1 := eq_true q1
        go_wp2_with (first | ((with_reducible refine gate_dst (N := 4) rfl ?_); refine box_event ?hg (N := 4) ?hd (cs := #[.bool false, .slice none 0 0]) (t := 53) ?hr ?_; (case hd => rfl); (case hg => rfl); (case hr => first | (go_simp; done) | (go_simp; rfl)); intro gb2 hg w7 hbox hb; have n0_ := hbS HB hb; have n1_ := Aside0.mk (hbox); have n2_ := Aside0.mk ((by rw [hg]; exact (below_size (hbW HB)) : w.heap.size ≤ gb2)); have n3_ := Aside0.mk ((by rw [hg]; exact (below_size (hbW HB)) : w.heap.size ≤ gb2)); clear HB; have HB := n0_; have BK2 := n1_; have GW2 := n2_; have GE2 := n3_; clear n0_ n1_ n2_ n3_; clear hb hbox hg; have hcz8_0 : w7.cell? ⟨gb2, 0, none⟩ = some (.bool false) := (blk_cell BK2.out 0).trans rfl; have hcz8_1 : w7.cell? ⟨gb2, 1, none⟩ = some (.slice none 0 0) := (blk_cell BK2.out 1).trans rfl; have hfz8_0 := blk_frozen BK2.out 0; have hfz8_1 := blk_frozen BK2.out 1))
        go_ret
        exact ⟨by first | rfl | (simp [errW_none, errW_some] <;> rfl) | (simp [*, errW_none, errW_some] <;> rfl), hbW HB⟩
       ·
        rw [if_neg c6] at H
        have c6b0 : decide (64 < (((rd_T53 l0 x10_1).f1).length : Int)) = false := decide_eq_false c6
        have c6b1 : decide (64 < ((rd_T53 l0 x10_1).f1).length) = false := decide_eq_false (by omega)
        clear c6
        have H' := Aside0.mk H
        clear H
        have p1 : 0 ≤ (x10_1 : Int) := of_decide_eq_true (by first | (with_reducible assumption) | assumption)
        have q1 : x10_1 < (l0.length : Int) := of_decide_eq_true (by first | (with_reducible assumption) | assumption)
        obtain ⟨ad1, A1_1, c1_1, e1, hx1_0, hx1_1, hl1_1, hi1_1⟩ := at_T53 HR0.out x10_1 p1 q1
        cases e1
        replace hx1_0 := (HB.out.cell (World.block_lt_of_cell? w _ hx1_0)).trans hx1_0
        replace hx1_1 := (HB.out.cell (World.block_lt_of_cell? w _ hx1_1)).trans hx1_1
        have HR1_1 := Aside0.mk hi1_1
        have HC1_1 := Aside0.mk hl1_1
        clear hi1_1 hl1_1
        replace p1 := eq_true p1
        replace q1 := eq_true q1
        go_wp2_with (first | ((with_reducible refine gate_dst (N := 4) rfl ?_); refine box_event ?hg (N := 4) ?hd (cs := #[.bool false, .slice none 0 0]) (t := 53) ?hr ?_; (case hd => rfl); (case hg => rfl); (case hr => first | (go_simp; done) | (go_simp; rfl)); intro gb2 hg w9 hbox hb; have n0_ := hbS HB hb; have n1_ := Aside0.mk (hbox); have n2_ := Aside0.mk ((by rw [hg]; exact (below_size (hbW HB)) : w.heap.size ≤ gb2)); have n3_ := Aside0.mk ((by rw [hg]; exact (below_size (hbW HB)) : w.heap.size ≤ gb2)); clear HB; have HB := n0_; have BK2 := n1_; have GW2 := n2_; have GE2 := n3_; clear n0_ n1_ n2_ n3_; clear hb hbox hg; have hcz10_0 : w9.cell? ⟨gb2, 0, none⟩ = some (.bool false) := (blk_cell BK2.out 0).trans rfl; have hcz10_1 : w9.cell? ⟨gb2, 1, none⟩ = some (.slice none 0 0) := (blk_cell BK2.out 1).trans rfl; have hfz10_0 := blk_frozen BK2.out 0; have hfz10_1 := blk_frozen BK2.out 1))
        go_roundg k1
        case measure => have := HK1.out; omega
        case rel => exact ⟨(wrap64 (x10_1 + 1)), (by first | rfl | (simp; done) | (simp [*]; done)), H', ⟨by have := HK1.out; omega⟩, ⟨hbW HB⟩⟩
      ·
       rw [if_neg c5] at H
       exact absurd H (by simp)
     ·
      rw [if_neg c4] at H
      exact absurd H (by simp)
    ·
     rw [if_neg c3] at H
     have c3b0 : decide (x10_1 < (l0.length : Int)) = false := decide_eq_false c3
     clear c3
     obtain rfl := Option.some.inj H
     go_wp2
     go_ret
     exact ⟨by first | rfl | (simp [errW_none, errW_some] <;> rfl) | (simp [*, errW_none, errW_some] <;> rfl), hbW HB⟩

end Go.Proofs.Ytgelpccjdndfoaa.P

namespace Go.Proofs.Ytgelpccjdndfoaa.P
open Go.RowKit Go.Proofs.YtgelpccjdndfoaaW.PrintWords Go.Proofs.YtgelpccjdndfoaaW.PrintLast Go.Proofs.YtgelpccjdndfoaaW.PrintMore
attribute [local go_sem] max2_int min2_int max_two min_two max_three min_three max_four min_four
set_option linter.unusedVariables false
set_option linter.unusedSimpArgs false

/-! ### dragomanref12_Right: function 15 -/
mutual
def q15z.j0 : Nat → Int → Bool → Int → Int → List Int → List (S53) → Option (Bool)
 | 0, _, _, _, _, _, _ => none
 | k + 1, x6, x7, x2000, x2001, x2002, x2003 => if x7 = true then (some true) else (if x6 = 3 then (some (decide (x2001 ≤ 2))) else (if x6 = 5 then (q15z.l0 k x2002 (x2002.length : Int) 0 x2000 x2001 x2002 x2003) else (if x6 = 6 then (q15z.j2 k x6 (x6 == 6) x2000 x2001 x2002 x2003) else (q15z.j2 k x6 (x6 == 7) x2000 x2001 x2002 x2003))))
def q15z.l0 : Nat → List Int → Int → Int → Int → Int → List Int → List (S53) → Option (Bool)
 | 0, _, _, _, _, _, _, _ => none
 | k + 1, x19, x20, x21, x2000, x2001, x2002, x2003 => if x21 < x20 then (if 0 ≤ x21 then (if x21 < (x19.length : Int) then (if (rd x19 x21) = 0 then (some false) else (q15z.l0 k x19 x20 (wrap64 (x21 + 1)) x2000 x2001 x2002 x2003)) else (none)) else (none)) else (some (decide ((x2002.length : Int) ≤ 64)))
def q15z.j2 : Nat → Int → Bool → Int → Int → List Int → List (S53) → Option (Bool)
 | 0, _, _, _, _, _, _ => none
 | k + 1, x6, x32, x2000, x2001, x2002, x2003 => if x32 = true then (some (decide ((x2002.length : Int) ≤ 64))) else (if x6 = 8 then ((q14z.f k x2003).bind fun t3 => (some t3)) else (some false))
end
def q15z.f (k : Nat) (a0_0 : Int) (a0_1 : Int) (l0_2 : List Int) (l0_3 : List (S53)) : Option (Bool) := if a0_0 = 1 then (q15z.j0 k a0_0 (a0_0 == 1) a0_0 a0_1 l0_2 l0_3) else (if a0_0 = 2 then (q15z.j0 k a0_0 (a0_0 == 2) a0_0 a0_1 l0_2 l0_3) else (q15z.j0 k a0_0 (a0_0 == 4) a0_0 a0_1 l0_2 l0_3))
theorem q15z.mono_l : ∀ k, (∀ y0 y1 y2 y3 y4 y5, LeO (q15z.j0 k y0 y1 y2 y3 y4 y5) (q15z.j0 (k + 1) y0 y1 y2 y3 y4 y5)) ∧ (∀ y0 y1 y2 y3 y4 y5 y6, LeO (q15z.l0 k y0 y1 y2 y3 y4 y5 y6) (q15z.l0 (k + 1) y0 y1 y2 y3 y4 y5 y6)) ∧ (∀ y0 y1 y2 y3 y4 y5, LeO (q15z.j2 k y0 y1 y2 y3 y4 y5) (q15z.j2 (k + 1) y0 y1 y2 y3 y4 y5))
 | 0 => ⟨fun _ _ _ _ _ _ r h => by simp [q15z.j0] at h, fun _ _ _ _ _ _ _ r h => by simp [q15z.l0] at h, fun _ _ _ _ _ _ r h => by simp [q15z.j2] at h⟩
 | k + 1 => by
  obtain ⟨ih0, ih1, ih2⟩ := q15z.mono_l k
  refine ⟨?_, ?_, ?_⟩
  ·
   intro y0 y1 y2 y3 y4 y5
   unfold q15z.j0
   repeat' first
   | (with_reducible exact ih0 _ _ _ _ _ _)
   | (with_reducible exact ih1 _ _ _ _ _ _ _)
   | (with_reducible exact ih2 _ _ _ _ _ _)
   | (with_reducible exact q14z.mono _ _)
   | (with_reducible exact LeO.refl _)
   | (with_reducible exact LeO.none _)
   | (with_reducible refine LeO.ite ?_ ?_)
   | (with_reducible refine LeO.bind ?_ (fun _ => ?_))
   | exact ih0 _ _ _ _ _ _
   | exact ih1 _ _ _ _ _ _ _
   | exact ih2 _ _ _ _ _ _
   | exact q14z.mono _ _
   | exact LeO.none _
   | refine LeO.ite ?_ ?_
   | refine LeO.bind ?_ (fun _ => ?_)
  ·
   intro y0 y1 y2 y3 y4 y5 y6
   unfold q15z.l0
   repeat' first
   | (with_reducible exact ih0 _ _ _ _ _ _)
   | (with_reducible exact ih1 _ _ _ _ _ _ _)
   | (with_reducible exact ih2 _ _ _ _ _ _)
   | (with_reducible exact q14z.mono _ _)
   | (with_reducible exact LeO.refl _)
   | (with_reducible exact LeO.none _)
   | (with_reducible refine LeO.ite ?_ ?_)
   | (with_reducible refine LeO.bind ?_ (fun _ => ?_))
   | exact ih0 _ _ _ _ _ _
   | exact ih1 _ _ _ _ _ _ _
   | exact ih2 _ _ _ _ _ _
   | exact q14z.mono _ _
   | exact LeO.none _
   | refine LeO.ite ?_ ?_
   | refine LeO.bind ?_ (fun _ => ?_)
  ·
   intro y0 y1 y2 y3 y4 y5
   unfold q15z.j2
   repeat' first
   | (with_reducible exact ih0 _ _ _ _ _ _)
   | (with_reducible exact ih1 _ _ _ _ _ _ _)
   | (with_reducible exact ih2 _ _ _ _ _ _)
   | (with_reducible exact q14z.mono _ _)
   | (with_reducible exact LeO.refl _)
   | (with_reducible exact LeO.none _)
   | (with_reducible refine LeO.ite ?_ ?_)
   | (with_reducible refine LeO.bind ?_ (fun _ => ?_))
   | exact ih0 _ _ _ _ _ _
   | exact ih1 _ _ _ _ _ _ _
   | exact ih2 _ _ _ _ _ _
   | exact q14z.mono _ _
   | exact LeO.none _
   | refine LeO.ite ?_ ?_
   | refine LeO.bind ?_ (fun _ => ?_)
theorem q15z.mono : ∀ a0 a1 a2 a3 k, LeO (q15z.f k a0 a1 a2 a3) (q15z.f (k + 1) a0 a1 a2 a3) := by
 intro a0 a1 a2 a3 k
 obtain ⟨ih0, ih1, ih2⟩ := q15z.mono_l k
 unfold q15z.f
 repeat' first
   | (with_reducible exact ih0 _ _ _ _ _ _)
   | (with_reducible exact ih1 _ _ _ _ _ _ _)
   | (with_reducible exact ih2 _ _ _ _ _ _)
   | (with_reducible exact q14z.mono _ _)
   | (with_reducible exact LeO.refl _)
   | (with_reducible exact LeO.none _)
   | (with_reducible refine LeO.ite ?_ ?_)
   | (with_reducible refine LeO.bind ?_ (fun _ => ?_))
   | exact ih0 _ _ _ _ _ _
   | exact ih1 _ _ _ _ _ _ _
   | exact ih2 _ _ _ _ _ _
   | exact q14z.mono _ _
   | exact LeO.none _
   | refine LeO.ite ?_ ?_
   | refine LeO.bind ?_ (fun _ => ?_)
set_option maxHeartbeats 8000000 in
set_option maxRecDepth 100000 in
theorem q15z.calls (k : Nat) (a0_0 : Int) (a0_1 : Int) (A0_2 : Option Addr) (c0_2 : Nat) (l0_2 : List Int) (A0_3 : Option Addr) (c0_3 : Nat) (l0_3 : List (S53)) (r : Bool) (w : World) (hr0_2 : Kd.C (Kd.int .u32) w A0_2 l0_2.length l0_2) (hc0_2 : l0_2.length ≤ c0_2) (hr0_3 : Kd.C k53 w A0_3 l0_3.length l0_3) (hc0_3 : l0_3.length ≤ c0_3) (h : q15z.f k a0_0 a0_1 l0_2 l0_3 = some r) :
  Calls Try.prog 15 #[.agg #[.int .i64 a0_0, .int .u32 a0_1, .slice A0_2 l0_2.length c0_2, .slice A0_3 l0_3.length c0_3]] w fun e w' => e = .returned (.bool r) ∧ Below w.heap.size w w' := by
 have hu26 := Try.underlying26
 have HR0_2 := Aside0.mk hr0_2
 have HC0_2 := Aside0.mk hc0_2
 clear hr0_2 hc0_2
 have HR0_3 := Aside0.mk hr0_3
 have HC0_3 := Aside0.mk hc0_3
 clear hr0_3 hc0_3
 have HB := Aside0.mk (Below.refl w.heap.size w)
 have H : (if a0_0 = 1 then (q15z.j0 k a0_0 (a0_0 == 1) a0_0 a0_1 l0_2 l0_3) else (if a0_0 = 2 then (q15z.j0 k a0_0 (a0_0 == 2) a0_0 a0_1 l0_2 l0_3) else (q15z.j0 k a0_0 (a0_0 == 4) a0_0 a0_1 l0_2 l0_3))) = some r := h
 clear h
 have HC2 := Aside0.mk H
 clear H
 go_enter Try.func15, Try.ntmps15
 go_upto_if 7 with (first | ((with_reducible refine gate_dst (N := 1) rfl ?_); refine box_event ?hg (N := 1) ?hd (cs := #[.int .i64 a0_0, .int .u32 a0_1, .slice A0_2 l0_2.length c0_2, .slice A0_3 l0_3.length c0_3]) (t := 26) ?hr ?_; (case hd => rfl); (case hg => rfl); (case hr => first | (go_simp; done) | (go_simp; rfl)); intro gb1 hg w3 hbox hb; have n0_ := hbS HB hb; have n1_ := Aside0.mk (hbox); have n2_ := Aside0.mk ((by rw [hg]; exact (below_size (hbW HB)) : w.heap.size ≤ gb1)); have n3_ := Aside0.mk ((by rw [hg]; exact (below_size (hbW HB)) : w.heap.size ≤ gb1)); clear HB; have HB := n0_; have BK1 := n1_; have GW1 := n2_; have GE1 := n3_; clear n0_ n1_ n2_ n3_; clear hb hbox hg; have hcz4_0 : w3.cell? ⟨gb1, 0, none⟩ = some (.int .i64 a0_0) := (blk_cell BK1.out 0).trans rfl; have hcz4_1 : w3.cell? ⟨gb1, 1, none⟩ = some (.int .u32 a0_1) := (blk_cell BK1.out 1).trans rfl; have hcz4_2 : w3.cell? ⟨gb1, 2, none⟩ = some (.slice A0_2 l0_2.length c0_2) := (blk_cell BK1.out 2).trans rfl; have hcz4_3 : w3.cell? ⟨gb1, 3, none⟩ = some (.slice A0_3 l0_3.length c0_3) := (blk_cell BK1.out 3).trans rfl; have hfz4_0 := blk_frozen BK1.out 0; have hfz4_1 := blk_frozen BK1.out 1; have hfz4_2 := blk_frozen BK1.out 2; have hfz4_3 := blk_frozen BK1.out 3))
 (try simp only [Act.put, List.setIfInBounds_toArray, List.set_cons_zero, List.set_cons_succ])
 go_cut [7] (fun v7 wc => ∃ (kq : Nat) (x7_1 : Bool), v7 = .bool x7_1 ∧ Aside0 (q15z.j0 kq a0_0 x7_1 a0_0 a0_1 l0_2 l0_3 = some r) ∧ Aside0 (kq ≤ k) ∧ Aside0 (wc.heap[gb1]? = some (.cells #[.int .i64 a0_0, .int .u32 a0_1, (.slice A0_2 l0_2.length c0_2), (.slice A0_3 l0_3.length c0_3)] 26 (0, 0))) ∧ Aside0 (Below w.heap.size w wc))
 case first =>
  have H := HC2.out
  clear HC2
  by_cases c5 : a0_0 = 1
  ·
   rw [if_pos c5] at H
   have c5b0 : (a0_0 == 1) = true := beq_iff_eq.mpr c5
   have c5b1 : (a0_0 != 1) = false := bne_eq_false_iff_eq.mpr c5
   clear c5
   (first | rw [c5b0] | (simp only [i64_w, i32_w, IntKind.wrap_u32]; rw [c5b0]) | skip)
   have H' := Aside0.mk H
   clear H
   go_wp2
   go_meet
   case rel => exact ⟨_, ((a0_0 == 1)), (by first | rfl | (simp; done) | (simp [*]; done)), H', ⟨by first | omega | exact Nat.le_refl _⟩, ⟨by (with_reducible repeat (first | refine blk_drewN ?_ _ | refine blk_drew ?_ | refine blk_alloc ?_ _)); exact BK1.out⟩, ⟨hbW HB⟩⟩
  ·
   rw [if_neg c5] at H
   have c5b0 : (a0_0 == 1) = false := beq_eq_false_iff_ne.mpr c5
   have c5b1 : (a0_0 != 1) = true := bne_iff_ne.mpr c5
   (first | rw [c5b0] | (simp only [i64_w, i32_w, IntKind.wrap_u32]; rw [c5b0]) | skip)
   by_cases c6 : a0_0 = 2
   ·
    rw [if_pos c6] at H
    have c6b0 : (a0_0 == 2) = true := beq_iff_eq.mpr c6
    have c6b1 : (a0_0 != 2) = false := bne_eq_false_iff_eq.mpr c6
    clear c6
    have H' := Aside0.mk H
    clear H
    go_wp2
    go_meet
    case rel => exact ⟨_, ((a0_0 == 2)), (by first | rfl | (simp; done) | (simp [*]; done)), H', ⟨by first | omega | exact Nat.le_refl _⟩, ⟨by (with_reducible repeat (first | refine blk_drewN ?_ _ | refine blk_drew ?_ | refine blk_alloc ?_ _)); exact BK1.out⟩, ⟨hbW HB⟩⟩
   ·
    rw [if_neg c6] at H
    have c6b0 : (a0_0 == 2) = false := beq_eq_false_iff_ne.mpr c6
    have c6b1 : (a0_0 != 2) = true := bne_iff_ne.mpr c6
    have H' := Aside0.mk H
    clear H
    go_wp2
    go_meet
    case rel => exact ⟨_, ((a0_0 == 4)), (by first | rfl | (simp; done) | (simp [*]; done)), H', ⟨by first | omega | exact Nat.le_refl _⟩, ⟨by (with_reducible repeat (first | refine blk_drewN ?_ _ | refine blk_drew ?_ | refine blk_alloc ?_ _)); exact BK1.out⟩, ⟨hbW HB⟩⟩
 case rest =>
  clear HC2
  try clear c1
  try clear p2
  try clear c5
  try clear c5b0
  try clear c5b1
  try clear c6
  try clear c6b0
  try clear c6b1
  try clear hcz4_0
  try clear hcz4_1
  try clear hcz4_2
  try clear hcz4_3
  try clear hfz4_0
  try clear hfz4_1
  try clear hfz4_2
  try clear hfz4_3
  obtain ⟨kq, x7_1, rfl, HA, HJ1, BK1, HB⟩ := hcut
  cases kq with
  | zero => exact absurd HA.out (by simp [q15z.j0])
  | succ kj1 =>
   have H := HA.out
   clear HA
   simp only [q15z.j0] at H
   by_cases c7 : x7_1 = true
   ·
    subst c7
    have H1 : (some true) = some r := by rw [if_pos rfl] at H; exact H
    clear H
    have H := H1
    clear H1
    obtain rfl := Option.some.inj H
    go_wp2
    go_ret
    exact ⟨by first | rfl | (simp [errW_none, errW_some] <;> rfl) | (simp [*, errW_none, errW_some] <;> rfl), hbW HB⟩
   ·
    replace c7 := Bool.eq_false_iff.mpr c7
    subst c7
    have H1 : (if a0_0 = 3 then (some (decide (a0_1 ≤ 2))) else (if a0_0 = 5 then (q15z.l0 kj1 l0_2 (l0_2.length : Int) 0 a0_0 a0_1 l0_2 l0_3) else (if a0_0 = 6 then (q15z.j2 kj1 a0_0 (a0_0 == 6) a0_0 a0_1 l0_2 l0_3) else (q15z.j2 kj1 a0_0 (a0_0 == 7) a0_0 a0_1 l0_2 l0_3)))) = some r := by rw [if_neg (show ¬ (false = true) by decide)] at H; exact H
    clear H
    have H := H1
    clear H1
    by_cases c8 : a0_0 = 3
    ·
     rw [if_pos c8] at H
     have c8b0 : (a0_0 == 3) = true := beq_iff_eq.mpr c8
     have c8b1 : (a0_0 != 3) = false := bne_eq_false_iff_eq.mpr c8
     clear c8
     obtain rfl := Option.some.inj H
     have hcz9_0 : wc.cell? ⟨gb1, 0, none⟩ = some (.int .i64 a0_0) := (blk_cell BK1.out 0).trans rfl
     have hcz9_1 : wc.cell? ⟨gb1, 1, none⟩ = some (.int .u32 a0_1) := (blk_cell BK1.out 1).trans rfl
     have hcz9_2 : wc.cell? ⟨gb1, 2, none⟩ = some (.slice A0_2 l0_2.length c0_2) := (blk_cell BK1.out 2).trans rfl
     have hcz9_3 : wc.cell? ⟨gb1, 3, none⟩ = some (.slice A0_3 l0_3.length c0_3) := (blk_cell BK1.out 3).trans rfl
     have hfz9_0 := blk_frozen BK1.out 0
     have hfz9_1 := blk_frozen BK1.out 1
     have hfz9_2 := blk_frozen BK1.out 2
     have hfz9_3 := blk_frozen BK1.out 3
     go_wp2
     go_ret
     exact ⟨by first | rfl | (simp [errW_none, errW_some] <;> rfl) | (simp [*, errW_none, errW_some] <;> rfl), hbW HB⟩
    ·
     rw [if_neg c8] at H
     have c8b0 : (a0_0 == 3) = false := beq_eq_false_iff_ne.mpr c8
     have c8b1 : (a0_0 != 3) = true := bne_iff_ne.mpr c8
     by_cases c10 : a0_0 = 5
     ·
      rw [if_pos c10] at H
      have c10b0 : (a0_0 == 5) = true := beq_iff_eq.mpr c10
      have c10b1 : (a0_0 != 5) = false := bne_eq_false_iff_eq.mpr c10
      clear c10
      have H' := Aside0.mk H
      clear H
      have hcz11_0 : wc.cell? ⟨gb1, 0, none⟩ = some (.int .i64 a0_0) := (blk_cell BK1.out 0).trans rfl
      have hcz11_1 : wc.cell? ⟨gb1, 1, none⟩ = some (.int .u32 a0_1) := (blk_cell BK1.out 1).trans rfl
      have hcz11_2 : wc.cell? ⟨gb1, 2, none⟩ = some (.slice A0_2 l0_2.length c0_2) := (blk_cell BK1.out 2).trans rfl
      have hcz11_3 : wc.cell? ⟨gb1, 3, none⟩ = some (.slice A0_3 l0_3.length c0_3) := (blk_cell BK1.out 3).trans rfl
      have hfz11_0 := blk_frozen BK1.out 0
      have hfz11_1 := blk_frozen BK1.out 1
      have hfz11_2 := blk_frozen BK1.out 2
      have hfz11_3 := blk_frozen BK1.out 3
      go_wp2
      go_loopg [21] kj1 (fun kq v21 w' => ∃ (x21_2 : Int), v21 = .int .i64 x21_2 ∧ Aside0 (q15z.l0 kq l0_2 (l0_2.length : Int) x21_2 a0_0 a0_1 l0_2 l0_3 = some r) ∧ Aside0 (kq ≤ kj1) ∧ Aside0 (w'.heap[gb1]? = some (.cells #[.int .i64 a0_0, .int .u32 a0_1, (.slice A0_2 l0_2.length c0_2), (.slice A0_3 l0_3.length c0_3)] 26 (0, 0))) ∧ Aside0 (Below w.heap.size w w'))
      case atStart => exact ⟨(0), (by first | rfl | (simp; done) | (simp [*]; done)), H', ⟨Nat.le_refl _⟩, ⟨by (with_reducible repeat (first | refine blk_drewN ?_ _ | refine blk_drew ?_ | refine blk_alloc ?_ _)); exact BK1.out⟩, ⟨hbW HB⟩⟩
      case round =>
       clear H'
       try clear c1
       try clear p2
       try clear c5
       try clear c5b0
       try clear c5b1
       try clear c6
       try clear c6b0
       try clear c6b1
       try clear c7
       try clear c8
       try clear c8b0
       try clear c8b1
       try clear c10
       try clear c10b0
       try clear c10b1
       try clear hcz11_0
       try clear hcz11_1
       try clear hcz11_2
       try clear hcz11_3
       try clear hcz4_0
       try clear hcz4_1
       try clear hcz4_2
       try clear hcz4_3
       try clear hcz9_0
       try clear hcz9_1
       try clear hcz9_2
       try clear hcz9_3
       try clear hfz11_0
       try clear hfz11_1
       try clear hfz11_2
       try clear hfz11_3
       try clear hfz4_0
       try clear hfz4_1
       try clear hfz4_2
       try clear hfz4_3
       try clear hfz9_0
       try clear hfz9_1
       try clear hfz9_2
       try clear hfz9_3
       try clear p2
       obtain ⟨x21_2, rfl, HA, HK2, BK1, HB⟩ := hrel
       cases gk with
       | zero => exact absurd HA.out (by simp [q15z.l0])
       | succ k2 =>
        have H := HA.out
        clear HA
        simp only [q15z.l0] at H
        by_cases c12 : x21_2 < (l0_2.length : Int)
        ·
         rw [if_pos c12] at H
         have c12b0 : decide (x21_2 < (l0_2.length : Int)) = true := decide_eq_true c12
         clear c12
         by_cases c13 : 0 ≤ x21_2
         ·
          rw [if_pos c13] at H
          have c13b0 : decide (0 ≤ x21_2) = true := decide_eq_true c13
          clear c13
          by_cases c14 : x21_2 < (l0_2.length : Int)
          ·
           rw [if_pos c14] at H
           have c14b0 : decide (x21_2 < (l0_2.length : Int)) = true := decide_eq_true c14
           clear c14
           by_cases c15 : (rd l0_2 x21_2) = 0
           ·
            rw [if_pos c15] at H
            have c15b0 : ((rd l0_2 x21_2) == 0) = true := beq_iff_eq.mpr c15
            have c15b1 : ((rd l0_2 x21_2) != 0) = false := bne_eq_false_iff_eq.mpr c15
            clear c15
            obtain rfl := Option.some.inj H
            have p2 : 0 ≤ (x21_2 : Int) := of_decide_eq_true (by first | (with_reducible assumption) | assumption)
            have q2 : x21_2 < (l0_2.length : Int) := of_decide_eq_true (by first | (with_reducible assumption) | assumption)
            obtain ⟨ad2, e2, hx2_0⟩ := Kd.at_int HR0_2.out x21_2 p2 q2
            cases e2
            replace hx2_0 := (HB.out.cell (World.block_lt_of_cell? w _ hx2_0)).trans hx2_0
            replace p2 := eq_true p2
            replace q2 := eq_true q2
            go_wp2
            go_ret
            exact ⟨by first | rfl | (simp [errW_none, errW_some] <;> rfl) | (simp [*, errW_none, errW_some] <;> rfl), hbW HB⟩
           ·
            rw [if_neg c15] at H
            have c15b0 : ((rd l0_2 x21_2) == 0) = false := beq_eq_false_iff_ne.mpr c15
            have c15b1 : ((rd l0_2 x21_2) != 0) = true := bne_iff_ne.mpr c15
            have H' := Aside0.mk H
            clear H
            have p2 : 0 ≤ (x21_2 : Int) := of_decide_eq_true (by first | (with_reducible assumption) | assumption)
            have q2 : x21_2 < (l0_2.length : Int) := of_decide_eq_true (by first | (with_reducible assumption) | assumption)
            obtain ⟨ad2, e2, hx2_0⟩ := Kd.at_int HR0_2.out x21_2 p2 q2
            cases e2
            replace hx2_0 := (HB.out.cell (World.block_lt_of_cell? w _ hx2_0)).trans hx2_0
            replace p2 := eq_true p2
            replace q2 := eq_true q2
            go_wp2
            go_roundg k2
            case measure => have := HJ1.out; have := HK2.out; omega
            case rel => exact ⟨(wrap64 (x21_2 + 1)), (by first | rfl | (simp; done) | (simp [*]; done)), H', ⟨by have := HJ1.out; have := HK2.out; omega⟩, ⟨by (with_reducible repeat (first | refine blk_drewN ?_ _ | refine blk_drew ?_ | refine blk_alloc ?_ _)); exact BK1.out⟩, ⟨hbW HB⟩⟩
          ·
           rw [if_neg c14] at H
           exact absurd H (by simp)
         ·
          rw [if_neg c13] at H
          exact absurd H (by simp)
        ·
         rw [if_neg c12] at H
         have c12b0 : decide (x21_2 < (l0_2.length : Int)) = false := decide_eq_false c12
         clear c12
         obtain rfl := Option.some.inj H
         have hcz16_0 : wr.cell? ⟨gb1, 0, none⟩ = some (.int .i64 a0_0) := (blk_cell BK1.out 0).trans rfl
         have hcz16_1 : wr.cell? ⟨gb1, 1, none⟩ = some (.int .u32 a0_1) := (blk_cell BK1.out 1).trans rfl
         have hcz16_2 : wr.cell? ⟨gb1, 2, none⟩ = some (.slice A0_2 l0_2.length c0_2) := (blk_cell BK1.out 2).trans rfl
         have hcz16_3 : wr.cell? ⟨gb1, 3, none⟩ = some (.slice A0_3 l0_3.length c0_3) := (blk_cell BK1.out 3).trans rfl
         have hfz16_0 := blk_frozen BK1.out 0
         have hfz16_1 := blk_frozen BK1.out 1
         have hfz16_2 := blk_frozen BK1.out 2
         have hfz16_3 := blk_frozen BK1.out 3
         go_wp2
         go_ret
         exact ⟨by first | rfl | (simp [errW_none, errW_some] <;> rfl) | (simp [*, errW_none, errW_some] <;> rfl), hbW HB⟩
     ·
      rw [if_neg c10] at H
      have c10b0 : (a0_0 == 5) = false := beq_eq_false_iff_ne.mpr c10
      have c10b1 : (a0_0 != 5) = true := bne_iff_ne.mpr c10
      have HC17 := Aside0.mk H
      clear H
      go_upto_if 32 with (fail)
      go_cut [32] (fun v32 wc => ∃ (kq : Nat) (x32_16 : Bool), v32 = .bool x32_16 ∧ Aside0 (q15z.j2 kq a0_0 x32_16 a0_0 a0_1 l0_2 l0_3 = some r) ∧ Aside0 (kq ≤ kj1) ∧ Aside0 (wc.heap[gb1]? = some (.cells #[.int .i64 a0_0, .int .u32 a0_1, (.slice A0_2 l0_2.length c0_2), (.slice A0_3 l0_3.length c0_3)] 26 (0, 0))) ∧ Aside0 (Below w.heap.size w wc))
      case first =>
       have H := HC17.out
       clear HC17
       by_cases c18 : a0_0 = 6
       ·
        rw [if_pos c18] at H
        have c18b0 : (a0_0 == 6) = true := beq_iff_eq.mpr c18
        have c18b1 : (a0_0 != 6) = false := bne_eq_false_iff_eq.mpr c18
        clear c18
        (first | rw [c18b0] | (simp only [i64_w, i32_w, IntKind.wrap_u32]; rw [c18b0]) | skip)
        have H' := Aside0.mk H
        clear H
        go_wp2
        go_meet
        case rel => exact ⟨_, ((a0_0 == 6)), (by first | rfl | (simp; done) | (simp [*]; done)), H', ⟨by have := HJ1.out; first | omega | exact Nat.le_refl _⟩, ⟨by (with_reducible repeat (first | refine blk_drewN ?_ _ | refine blk_drew ?_ | refine blk_alloc ?_ _)); exact BK1.out⟩, ⟨hbW HB⟩⟩
       ·
        rw [if_neg c18] at H
        have c18b0 : (a0_0 == 6) = false := beq_eq_false_iff_ne.mpr c18
        have c18b1 : (a0_0 != 6) = true := bne_iff_ne.mpr c18
        (first | rw [c18b0] | (simp only [i64_w, i32_w, IntKind.wrap_u32]; rw [c18b0]) | skip)
        have H' := Aside0.mk H
        clear H
        go_wp2
        go_meet
        case rel => exact ⟨_, ((a0_0 == 7)), (by first | rfl | (simp; done) | (simp [*]; done)), H', ⟨by have := HJ1.out; first | omega | exact Nat.le_refl _⟩, ⟨by (with_reducible repeat (first | refine blk_drewN ?_ _ | refine blk_drew ?_ | refine blk_alloc ?_ _)); exact BK1.out⟩, ⟨hbW HB⟩⟩
      case rest =>
       clear HC17
       try clear c1
       try clear p2
       try clear q2
       try clear hx2
       try clear c5
       try clear c5b0
       try clear c5b1
       try clear c6
       try clear c6b0
       try clear c6b1
       try clear p6
       try clear c7
       try clear c8
       try clear c8b0
       try clear c8b1
       try clear c10
       try clear c10b0
       try clear c10b1
       try clear c12
       try clear c12b0
       try clear c13
       try clear c13b0
       try clear c14
       try clear c14b0
       try clear c15
       try clear c15b0
       try clear c15b1
       try clear c18
       try clear c18b0
       try clear c18b1
       try clear hcz11_0
       try clear hcz11_1
       try clear hcz11_2
       try clear hcz11_3
       try clear hcz16_0
       try clear hcz16_1
       try clear hcz16_2
       try clear hcz16_3
       try clear hcz4_0
       try clear hcz4_1
       try clear hcz4_2
       try clear hcz4_3
       try clear hcz9_0
       try clear hcz9_1
       try clear hcz9_2
       try clear hcz9_3
       try clear hfz11_0
       try clear hfz11_1
       try clear hfz11_2
       try clear hfz11_3
       try clear hfz16_0
       try clear hfz16_1
       try clear hfz16_2
       try clear hfz16_3
       try clear hfz4_0
       try clear hfz4_1
       try clear hfz4_2
       try clear hfz4_3
       try clear hfz9_0
       try clear hfz9_1
       try clear hfz9_2
       try clear hfz9_3
       try clear hx2_0
       try clear p2
       try clear q2
       obtain ⟨kq, x32_16, rfl, HA, HJ16, BK1, HB⟩ := hcut
       cases kq with
       | zero => exact absurd HA.out (by simp [q15z.j2])
       | succ kj16 =>
        have H := HA.out
        clear HA
        simp only [q15z.j2] at H
        by_cases c19 : x32_16 = true
        ·
         subst c19
         have H1 : (some (decide ((l0_2.length : Int) ≤ 64))) = some r := by rw [if_pos rfl] at H; exact H
         clear H
         have H := H1
         clear H1
         obtain rfl := Option.some.inj H
         have hcz20_0 : wc.cell? ⟨gb1, 0, none⟩ = some (.int .i64 a0_0) := (blk_cell BK1.out 0).trans rfl
         have hcz20_1 : wc.cell? ⟨gb1, 1, none⟩ = some (.int .u32 a0_1) := (blk_cell BK1.out 1).trans rfl
         have hcz20_2 : wc.cell? ⟨gb1, 2, none⟩ = some (.slice A0_2 l0_2.length c0_2) := (blk_cell BK1.out 2).trans rfl
         have hcz20_3 : wc.cell? ⟨gb1, 3, none⟩ = some (.slice A0_3 l0_3.length c0_3) := (blk_cell BK1.out 3).trans rfl
         have hfz20_0 := blk_frozen BK1.out 0
         have hfz20_1 := blk_frozen BK1.out 1
         have hfz20_2 := blk_frozen BK1.out 2
         have hfz20_3 := blk_frozen BK1.out 3
         go_wp2
         go_ret
         exact ⟨by first | rfl | (simp [errW_none, errW_some] <;> rfl) | (simp [*, errW_none, errW_some] <;> rfl), hbW HB⟩
        ·
         replace c19 := Bool.eq_false_iff.mpr c19
         subst c19
         have H1 : (if a0_0 = 8 then ((q14z.f kj16 l0_3).bind fun t3 => (some t3)) else (some false)) = some r := by rw [if_neg (show ¬ (false = true) by decide)] at H; exact H
         clear H
         have H := H1
         clear H1
         by_cases c21 : a0_0 = 8
         ·
          rw [if_pos c21] at H
          have c21b0 : (a0_0 == 8) = true := beq_iff_eq.mpr c21
          have c21b1 : (a0_0 != 8) = false := bne_eq_false_iff_eq.mpr c21
          clear c21
          replace H := Option.bind_eq_some_iff.mp H
          obtain ⟨t3, A220, H⟩ := H
          replace H : (some t3) = some r := H
          have A22 := Aside0.mk A220
          clear A220
          obtain rfl := Option.some.inj H
          have hcz23_0 : wc.cell? ⟨gb1, 0, none⟩ = some (.int .i64 a0_0) := (blk_cell BK1.out 0).trans rfl
          have hcz23_1 : wc.cell? ⟨gb1, 1, none⟩ = some (.int .u32 a0_1) := (blk_cell BK1.out 1).trans rfl
          have hcz23_2 : wc.cell? ⟨gb1, 2, none⟩ = some (.slice A0_2 l0_2.length c0_2) := (blk_cell BK1.out 2).trans rfl
          have hcz23_3 : wc.cell? ⟨gb1, 3, none⟩ = some (.slice A0_3 l0_3.length c0_3) := (blk_cell BK1.out 3).trans rfl
          have hfz23_0 := blk_frozen BK1.out 0
          have hfz23_1 := blk_frozen BK1.out 1
          have hfz23_2 := blk_frozen BK1.out 2
          have hfz23_3 := blk_frozen BK1.out 3
          go_wp2_with (first | ((with_reducible refine gate_callee (f := 34) rfl ?_); refine goesL_ (some 43) rfl rfl Try.func34 (by kernel_rfl) rfl #[.slice A0_3 l0_3.length c0_3] rfl (by (try simp only [List.map_toArray, List.map_cons, List.map_nil]); first | done | rfl | (simp only [List.length_drop, List.length_take]; rfl)) ?_; (with_reducible refine (q14z.calls kj16 _ _ l0_3 t3 _ ?side1 ?side2 A22.out).mono ?_); (case side1 => repeat (first | exact (Kd.C_below HR0_3.out HB.out) | (with_reducible refine Kd.C_alloc ?_ _) | (with_reducible refine Kd.C_drewN ?_ _) | (with_reducible refine Kd.C_drew ?_))); (case side2 => exact HC0_3.out); rintro e w24 ⟨rfl, hb⟩; refine ⟨_, rfl, ?_⟩; have n0_ := bkB BK1 hb; have n1_ := hbS HB hb; clear BK1; clear HB; have BK1 := n0_; have HB := n1_; clear n0_ n1_; (try clear hb); (try clear hb2); (try clear hk); (try clear hi)))
          go_ret
          exact ⟨by first | rfl | (simp [errW_none, errW_some] <;> rfl) | (simp [*, errW_none, errW_some] <;> rfl), hbW HB⟩
         ·
          rw [if_neg c21] at H
          have c21b0 : (a0_0 == 8) = false := beq_eq_false_iff_ne.mpr c21
          have c21b1 : (a0_0 != 8) = true := bne_iff_ne.mpr c21
          obtain rfl := Option.some.inj H
          go_wp2
          go_ret
          exact ⟨by first | rfl | (simp [errW_none, errW_some] <;> rfl) | (simp [*, errW_none, errW_some] <;> rfl), hbW HB⟩

end Go.Proofs.Ytgelpccjdndfoaa.P

namespace Go.Proofs.Ytgelpccjdndfoaa.P
open Go.RowKit Go.Proofs.YtgelpccjdndfoaaW.PrintWords Go.Proofs.YtgelpccjdndfoaaW.PrintLast Go.Proofs.YtgelpccjdndfoaaW.PrintMore
attribute [local go_sem] max2_int min2_int max_two min_two max_three min_three max_four min_four
set_option linter.unusedVariables false
set_option linter.unusedSimpArgs false

/-! ### dragomanref02_In: function 60 -/
def q16z.f (a0_0 : Int) (a0_1 : Int) (a1 : Int) : Option (Bool) := if ((Int.tdiv a1 65536) % 4294967296) ≥ ((Int.tdiv a0_0 65536) % 4294967296) then (if ((Int.tdiv a1 65536) % 4294967296) ≤ ((Int.tdiv a0_1 65536) % 4294967296) then (if (Int.tmod a1 65536) ≥ (Int.tmod a0_0 65536) then (some (decide ((Int.tmod a1 65536) ≤ (Int.tmod a0_1 65536)))) else (some false)) else (some false)) else (some false)
set_option maxHeartbeats 8000000 in
set_option maxRecDepth 100000 in
theorem q16z.calls (a0_0 : Int) (a0_1 : Int) (a1 : Int) (r : Bool) (w : World) (h : q16z.f a0_0 a0_1 a1 = some r) :
  Calls Try.prog 60 #[.agg #[.int .u32 a0_0, .int .u32 a0_1], .int .u32 a1] w fun e w' => e = .returned (.bool r) ∧ Below w.heap.size w w' := by
 have hu50 := Try.underlying50
 have HB := Aside0.mk (Below.refl w.heap.size w)
 have H : (if ((Int.tdiv a1 65536) % 4294967296) ≥ ((Int.tdiv a0_0 65536) % 4294967296) then (if ((Int.tdiv a1 65536) % 4294967296) ≤ ((Int.tdiv a0_1 65536) % 4294967296) then (if (Int.tmod a1 65536) ≥ (Int.tmod a0_0 65536) then (some (decide ((Int.tmod a1 65536) ≤ (Int.tmod a0_1 65536)))) else (some false)) else (some false)) else (some false)) = some r := h
 clear h
 by_cases c3 : ((Int.tdiv a1 65536) % 4294967296) ≥ ((Int.tdiv a0_0 65536) % 4294967296)
 ·
  rw [if_pos c3] at H
  have c3b0 : decide (((Int.tdiv a0_0 65536) % 4294967296) ≤ ((Int.tdiv a1 65536) % 4294967296)) = true := decide_eq_true c3
  clear c3
  by_cases c4 : ((Int.tdiv a1 65536) % 4294967296) ≤ ((Int.tdiv a0_1 65536) % 4294967296)
  ·
   rw [if_pos c4] at H
   have c4b0 : decide (((Int.tdiv a1 65536) % 4294967296) ≤ ((Int.tdiv a0_1 65536) % 4294967296)) = true := decide_eq_true c4
   clear c4
   by_cases c5 : (Int.tmod a1 65536) ≥ (Int.tmod a0_0 65536)
   ·
    rw [if_pos c5] at H
    have c5b0 : decide ((Int.tmod a0_0 65536) ≤ (Int.tmod a1 65536)) = true := decide_eq_true c5
    clear c5
    obtain rfl := Option.some.inj H
    go_enter Try.func60, Try.ntmps60
    go_wp2_with (first | ((with_reducible refine gate_dst (N := 2) rfl ?_); refine box_event ?hg (N := 2) ?hd (cs := #[.int .u32 a0_0, .int .u32 a0_1]) (t := 50) ?hr ?_; (case hd => rfl); (case hg => rfl); (case hr => first | (go_simp; done) | (go_simp; rfl)); intro gb1 hg w6 hbox hb; have n0_ := hbS HB hb; have n1_ := Aside0.mk (hbox); have n2_ := Aside0.mk ((by rw [hg]; exact (below_size (hbW HB)) : w.heap.size ≤ gb1)); have n3_ := Aside0.mk ((by rw [hg]; exact (below_size (hbW HB)) : w.heap.size ≤ gb1)); clear HB; have HB := n0_; have BK1 := n1_; have GW1 := n2_; have GE1 := n3_; clear n0_ n1_ n2_ n3_; clear hb hbox hg; have hcz7_0 : w6.cell? ⟨gb1, 0, none⟩ = some (.int .u32 a0_0) := (blk_cell BK1.out 0).trans rfl; have hcz7_1 : w6.cell? ⟨gb1, 1, none⟩ = some (.int .u32 a0_1) := (blk_cell BK1.out 1).trans rfl; have hfz7_0 := blk_frozen BK1.out 0; have hfz7_1 := blk_frozen BK1.out 1))
    go_ret
    exact ⟨by first | rfl | (simp [errW_none, errW_some] <;> rfl) | (simp [*, errW_none, errW_some] <;> rfl), hbW HB⟩
   ·
    rw [if_neg c5] at H
    have c5b0 : decide ((Int.tmod a0_0 65536) ≤ (Int.tmod a1 65536)) = false := decide_eq_false c5
    clear c5
    obtain rfl := Option.some.inj H
    go_enter Try.func60, Try.ntmps60
    go_wp2_with (first | ((with_reducible refine gate_dst (N := 2) rfl ?_); refine box_event ?hg (N := 2) ?hd (cs := #[.int .u32 a0_0, .int .u32 a0_1]) (t := 50) ?hr ?_; (case hd => rfl); (case hg => rfl); (case hr => first | (go_simp; done) | (go_simp; rfl)); intro gb1 hg w8 hbox hb; have n0_ := hbS HB hb; have n1_ := Aside0.mk (hbox); have n2_ := Aside0.mk ((by rw [hg]; exact (below_size (hbW HB)) : w.heap.size ≤ gb1)); have n3_ := Aside0.mk ((by rw [hg]; exact (below_size (hbW HB)) : w.heap.size ≤ gb1)); clear HB; have HB := n0_; have BK1 := n1_; have GW1 := n2_; have GE1 := n3_; clear n0_ n1_ n2_ n3_; clear hb hbox hg; have hcz9_0 : w8.cell? ⟨gb1, 0, none⟩ = some (.int .u32 a0_0) := (blk_cell BK1.out 0).trans rfl; have hcz9_1 : w8.cell? ⟨gb1, 1, none⟩ = some (.int .u32 a0_1) := (blk_cell BK1.out 1).trans rfl; have hfz9_0 := blk_frozen BK1.out 0; have hfz9_1 := blk_frozen BK1.out 1))
    go_ret
    exact ⟨by first | rfl | (simp [errW_none, errW_some] <;> rfl) | (simp [*, errW_none, errW_some] <;> rfl), hbW HB⟩
  ·
   rw [if_neg c4] at H
   have c4b0 : decide (((Int.tdiv a1 65536) % 4294967296) ≤ ((Int.tdiv a0_1 65536) % 4294967296)) = false := decide_eq_false c4
   clear c4
   obtain rfl := Option.some.inj H
   go_enter Try.func60, Try.ntmps60
   go_wp2_with (first | ((with_reducible refine gate_dst (N := 2) rfl ?_); refine box_event ?hg (N := 2) ?hd (cs := #[.int .u32 a0_0, .int .u32 a0_1]) (t := 50) ?hr ?_; (case hd => rfl); (case hg => rfl); (case hr => first | (go_simp; done) | (go_simp; rfl)); intro gb1 hg w10 hbox hb; have n0_ := hbS HB hb; have n1_ := Aside0.mk (hbox); have n2_ := Aside0.mk ((by rw [hg]; exact (below_size (hbW HB)) : w.heap.size ≤ gb1)); have n3_ := Aside0.mk ((by rw [hg]; exact (below_size (hbW HB)) : w.heap.size ≤ gb1)); clear HB; have HB := n0_; have BK1 := n1_; have GW1 := n2_; have GE1 := n3_; clear n0_ n1_ n2_ n3_; clear hb hbox hg; have hcz11_0 : w10.cell? ⟨gb1, 0, none⟩ = some (.int .u32 a0_0) := (blk_cell BK1.out 0).trans rfl; have hcz11_1 : w10.cell? ⟨gb1, 1, none⟩ = some (.int .u32 a0_1) := (blk_cell BK1.out 1).trans rfl; have hfz11_0 := blk_frozen BK1.out 0; have hfz11_1 := blk_frozen BK1.out 1))
   go_ret
   exact ⟨by first | rfl | (simp [errW_none, errW_some] <;> rfl) | (simp [*, errW_none, errW_some] <;> rfl), hbW HB⟩
 ·
  rw [if_neg c3] at H
  have c3b0 : decide (((Int.tdiv a0_0 65536) % 4294967296) ≤ ((Int.tdiv a1 65536) % 4294967296)) = false := decide_eq_false c3
  clear c3
  obtain rfl := Option.some.inj H
  go_enter Try.func60, Try.ntmps60
  go_wp2_with (first | ((with_reducible refine gate_dst (N := 2) rfl ?_); refine box_event ?hg (N := 2) ?hd (cs := #[.int .u32 a0_0, .int .u32 a0_1]) (t := 50) ?hr ?_; (case hd => rfl); (case hg => rfl); (case hr => first | (go_simp; done) | (go_simp; rfl)); intro gb1 hg w12 hbox hb; have n0_ := hbS HB hb; have n1_ := Aside0.mk (hbox); have n2_ := Aside0.mk ((by rw [hg]; exact (below_size (hbW HB)) : w.heap.size ≤ gb1)); have n3_ := Aside0.mk ((by rw [hg]; exact (below_size (hbW HB)) : w.heap.size ≤ gb1)); clear HB; have HB := n0_; have BK1 := n1_; have GW1 := n2_; have GE1 := n3_; clear n0_ n1_ n2_ n3_; clear hb hbox hg; have hcz13_0 : w12.cell? ⟨gb1, 0, none⟩ = some (.int .u32 a0_0) := (blk_cell BK1.out 0).trans rfl; have hcz13_1 : w12.cell? ⟨gb1, 1, none⟩ = some (.int .u32 a0_1) := (blk_cell BK1.out 1).trans rfl; have hfz13_0 := blk_frozen BK1.out 0; have hfz13_1 := blk_frozen BK1.out 1))
  go_ret
  exact ⟨by first | rfl | (simp [errW_none, errW_some] <;> rfl) | (simp [*, errW_none, errW_some] <;> rfl), hbW HB⟩

end Go.Proofs.Ytgelpccjdndfoaa.P

namespace Go.Proofs.Ytgelpccjdndfoaa.P
open Go.RowKit Go.Proofs.YtgelpccjdndfoaaW.PrintWords Go.Proofs.YtgelpccjdndfoaaW.PrintLast Go.Proofs.YtgelpccjdndfoaaW.PrintMore
attribute [local go_sem] max2_int min2_int max_two min_two max_three min_three max_four min_four
set_option linter.unusedVariables false
set_option linter.unusedSimpArgs false

/-! ### dragomanref11_all: function 39 -/
mutual
def q17z.l0 : Nat → List Int → List (S50) → Int → Int → Option (Bool)
 | 0, _, _, _, _ => none
 | k + 1, x1, x10, x11, x12 => if x12 < x11 then (if 0 ≤ x12 then (if x12 < (x10.length : Int) then (q17z.l1 k x1 false x10 x11 x12 x1 (x1.length : Int) 0 ((rd_T50 x10 x12).f0) ((rd_T50 x10 x12).f1)) else (none)) else (none)) else (some true)
def q17z.l1 : Nat → List Int → Bool → List (S50) → Int → Int → List Int → Int → Int → Int → Int → Option (Bool)
 | 0, _, _, _, _, _, _, _, _, _, _ => none
 | k + 1, x1, x7, x10, x11, x12, x16, x17, x18, x3000, x3001 => if x18 < x17 then (if 0 ≤ x18 then (if x18 < (x16.length : Int) then (if x7 = true then (q17z.l1 k x1 true x10 x11 x12 x16 x17 (wrap64 (x18 + 1)) x3000 x3001) else ((q16z.f x3000 x3001 (rd x16 x18)).bind fun t4 => (q17z.l1 k x1 t4 x10 x11 x12 x16 x17 (wrap64 (x18 + 1)) x3000 x3001))) else (none)) else (none)) else (if x7 = true then (q17z.l0 k x1 x10 x11 (wrap64 (x12 + 1))) else (some false))
end
def q17z.f (k : Nat) (l0 : List (S50)) (l1 : List Int) : Option (Bool) := q17z.l0 k l1 l0 (l0.length : Int) 0
theorem q17z.mono_l : ∀ k, (∀ y0 y1 y2 y3, LeO (q17z.l0 k y0 y1 y2 y3) (q17z.l0 (k + 1) y0 y1 y2 y3)) ∧ (∀ y0 y1 y2 y3 y4 y5 y6 y7 y8 y9, LeO (q17z.l1 k y0 y1 y2 y3 y4 y5 y6 y7 y8 y9) (q17z.l1 (k + 1) y0 y1 y2 y3 y4 y5 y6 y7 y8 y9))
 | 0 => ⟨fun _ _ _ _ r h => by simp [q17z.l0] at h, fun _ _ _ _ _ _ _ _ _ _ r h => by simp [q17z.l1] at h⟩
 | k + 1 => by
  obtain ⟨ih0, ih1⟩ := q17z.mono_l k
  refine ⟨?_, ?_⟩
  ·
   intro y0 y1 y2 y3
   unfold q17z.l0
   repeat' first
   | (with_reducible exact ih0 _ _ _ _)
   | (with_reducible exact ih1 _ _ _ _ _ _ _ _ _ _)
   | (with_reducible exact LeO.refl _)
   | (with_reducible exact LeO.none _)
   | (with_reducible refine LeO.ite ?_ ?_)
   | (with_reducible refine LeO.bind ?_ (fun _ => ?_))
   | exact ih0 _ _ _ _
   | exact ih1 _ _ _ _ _ _ _ _ _ _
   | exact LeO.none _
   | refine LeO.ite ?_ ?_
   | refine LeO.bind ?_ (fun _ => ?_)
  ·
   intro y0 y1 y2 y3 y4 y5 y6 y7 y8 y9
   unfold q17z.l1
   repeat' first
   | (with_reducible exact ih0 _ _ _ _)
   | (with_reducible exact ih1 _ _ _ _ _ _ _ _ _ _)
   | (with_reducible exact LeO.refl _)
   | (with_reducible exact LeO.none _)
   | (with_reducible refine LeO.ite ?_ ?_)
   | (with_reducible refine LeO.bind ?_ (fun _ => ?_))
   | exact ih0 _ _ _ _
   | exact ih1 _ _ _ _ _ _ _ _ _ _
   | exact LeO.none _
   | refine LeO.ite ?_ ?_
   | refine LeO.bind ?_ (fun _ => ?_)
theorem q17z.mono : ∀ a0 a1 k, LeO (q17z.f k a0 a1) (q17z.f (k + 1) a0 a1) := by
 intro a0 a1 k
 obtain ⟨ih0, ih1⟩ := q17z.mono_l k
 unfold q17z.f
 repeat' first
   | (with_reducible exact ih0 _ _ _ _)
   | (with_reducible exact ih1 _ _ _ _ _ _ _ _ _ _)
   | (with_reducible exact LeO.refl _)
   | (with_reducible exact LeO.none _)
   | (with_reducible refine LeO.ite ?_ ?_)
   | (with_reducible refine LeO.bind ?_ (fun _ => ?_))
   | exact ih0 _ _ _ _
   | exact ih1 _ _ _ _ _ _ _ _ _ _
   | exact LeO.none _
   | refine LeO.ite ?_ ?_
   | refine LeO.bind ?_ (fun _ => ?_)
set_option maxHeartbeats 8000000 in
set_option maxRecDepth 100000 in
theorem q17z.calls (k : Nat) (A0 : Option Addr) (c0 : Nat) (l0 : List (S50)) (A1 : Option Addr) (c1 : Nat) (l1 : List Int) (r : Bool) (w : World) (hr0 : Kd.C k50 w A0 l0.length l0) (hc0 : l0.length ≤ c0) (hr1 : Kd.C (Kd.int .u32) w A1 l1.length l1) (hc1 : l1.length ≤ c1) (h : q17z.f k l0 l1 = some r) :
  Calls Try.prog 39 #[.slice A0 l0.length c0, .slice A1 l1.length c1] w fun e w' => e = .returned (.bool r) ∧ Below w.heap.size w w' := by
 have hu50 := Try.underlying50
 have HR0 := Aside0.mk hr0
 have HC0 := Aside0.mk hc0
 clear hr0 hc0
 have HR1 := Aside0.mk hr1
 have HC1 := Aside0.mk hc1
 clear hr1 hc1
 have HB := Aside0.mk (Below.refl w.heap.size w)
 have H : (q17z.l0 k l1 l0 (l0.length : Int) 0) = some r := h
 clear h
 have H' := Aside0.mk H
 clear H
 go_enter Try.func39, Try.ntmps39
 go_wp2
 go_loopg [12] k (fun kq v12 w' => ∃ (x12_1 : Int), v12 = .int .i64 x12_1 ∧ Aside0 (q17z.l0 kq l1 l0 (l0.length : Int) x12_1 = some r) ∧ Aside0 (kq ≤ k) ∧ Aside0 (Below w.heap.size w w'))
 case atStart => exact ⟨(0), (by first | rfl | (simp; done) | (simp [*]; done)), H', ⟨Nat.le_refl _⟩, ⟨hbW HB⟩⟩
 case round =>
  clear H'
  try clear c1
  try clear p2
  obtain ⟨x12_1, rfl, HA, HK1, HB⟩ := hrel
  cases gk with
  | zero => exact absurd HA.out (by simp [q17z.l0])
  | succ k1 =>
   have H := HA.out
   clear HA
   simp only [q17z.l0] at H
   by_cases c3 : x12_1 < (l0.length : Int)
   ·
    rw [if_pos c3] at H
    have c3b0 : decide (x12_1 < (l0.length : Int)) = true := decide_eq_true c3
    clear c3
    by_cases c4 : 0 ≤ x12_1
    ·
     rw [if_pos c4] at H
     have c4b0 : decide (0 ≤ x12_1) = true := decide_eq_true c4
     clear c4
     by_cases c5 : x12_1 < (l0.length : Int)
     ·
      rw [if_pos c5] at H
      have c5b0 : decide (x12_1 < (l0.length : Int)) = true := decide_eq_true c5
      clear c5
      have H' := Aside0.mk H
      clear H
      have p1 : 0 ≤ (x12_1 : Int) := of_decide_eq_true (by first | (with_reducible assumption) | assumption)
      have q1 : x12_1 < (l0.length : Int) := of_decide_eq_true (by first | (with_reducible assumption) | assumption)
      obtain ⟨ad1, e1, hx1_0, hx1_1⟩ := at_T50 HR0.out x12_1 p1 q1
      cases e1
      replace hx1_0 := (HB.out.cell (World.block_lt_of_cell? w _ hx1_0)).trans hx1_0
      replace hx1_1 := (HB.out.cell (World.block_lt_of_cell? w _ hx1_1)).trans hx1_1
      replace p1 := eq_true p1
      replace q1 := eq_true q1
      go_wp2_with (first | ((with_reducible refine gate_dst (N := 6) rfl ?_); refine box_event ?hg (N := 6) ?hd (cs := #[.int .u32 0, .int .u32 0]) (t := 50) ?hr ?_; (case hd => rfl); (case hg => rfl); (case hr => first | (go_simp; done) | (go_simp; rfl)); intro gb2 hg w6 hbox hb; have n0_ := hbS HB hb; have n1_ := Aside0.mk (hbox); have n2_ := Aside0.mk ((by rw [hg]; exact (below_size (hbW HB)) : w.heap.size ≤ gb2)); have n3_ := Aside0.mk ((by rw [hg]; exact (below_size (hbW HB)) : w.heap.size ≤ gb2)); clear HB; have HB := n0_; have BK2 := n1_; have GW2 := n2_; have GE2 := n3_; clear n0_ n1_ n2_ n3_; clear hb hbox hg; have hcz7_0 : w6.cell? ⟨gb2, 0, none⟩ = some (.int .u32 0) := (blk_cell BK2.out 0).trans rfl; have hcz7_1 : w6.cell? ⟨gb2, 1, none⟩ = some (.int .u32 0) := (blk_cell BK2.out 1).trans rfl; have hfz7_0 := blk_frozen BK2.out 0; have hfz7_1 := blk_frozen BK2.out 1))
      go_loopg [7, 18] k1 (fun kq v7 v18 w' => ∃ (x7_2 : Bool) (x18_2 : Int), v7 = .bool x7_2 ∧ v18 = .int .i64 x18_2 ∧ Aside0 (q17z.l1 kq l1 x7_2 l0 (l0.length : Int) x12_1 l1 (l1.length : Int) x18_2 ((rd_T50 l0 x12_1).f0) ((rd_T50 l0 x12_1).f1) = some r) ∧ Aside0 (kq ≤ k1) ∧ Aside0 (w'.heap[gb2]? = some (.cells #[.int .u32 ((rd_T50 l0 x12_1).f0), .int .u32 ((rd_T50 l0 x12_1).f1)] 50 (0, 0))) ∧ Aside0 (Below w.heap.size w w'))
      case atStart => exact ⟨(false), (0), (by first | rfl | (simp; done) | (simp [*]; done)), (by first | rfl | (simp; done) | (simp [*]; done)), H', ⟨Nat.le_refl _⟩, ⟨by (with_reducible repeat (first | refine blk_drewN ?_ _ | refine blk_drew ?_ | refine blk_alloc ?_ _)); refine blk_put (cs := #[.int .u32 ((rd_T50 l0 x12_1).f0), .int .u32 0]) ?_ 1 _ rfl; (with_reducible repeat (first | refine blk_drewN ?_ _ | refine blk_drew ?_ | refine blk_alloc ?_ _)); refine blk_put (cs := #[.int .u32 0, .int .u32 0]) ?_ 0 _ rfl; (with_reducible repeat (first | refine blk_drewN ?_ _ | refine blk_drew ?_ | refine blk_alloc ?_ _)); exact BK2.out⟩, ⟨hbW HB⟩⟩
      case round =>
       clear H'
       try clear c1
       try clear p1
       try clear q1
       try clear hx1
       try clear p2
       try clear c3
       try clear c3b0
       try clear c4
       try clear c4b0
       try clear c5
       try clear c5b0
       try clear hcz7_0
       try clear hcz7_1
       try clear hfz7_0
       try clear hfz7_1
       try clear hx1_0
       try clear hx1_1
       try clear p1
       try clear p2
       try clear q1
       obtain ⟨x7_2, x18_2, rfl, rfl, HA, HK2, BK2, HB⟩ := hrel
       cases gk with
       | zero => exact absurd HA.out (by simp [q17z.l1])
       | succ k2 =>
        have H := HA.out
        clear HA
        simp only [q17z.l1] at H
        by_cases c8 : x18_2 < (l1.length : Int)
        ·
         rw [if_pos c8] at H
         have c8b0 : decide (x18_2 < (l1.length : Int)) = true := decide_eq_true c8
         clear c8
         by_cases c9 : 0 ≤ x18_2
         ·
          rw [if_pos c9] at H
          have c9b0 : decide (0 ≤ x18_2) = true := decide_eq_true c9
          clear c9
          by_cases c10 : x18_2 < (l1.length : Int)
          ·
           rw [if_pos c10] at H
           have c10b0 : decide (x18_2 < (l1.length : Int)) = true := decide_eq_true c10
           clear c10
           by_cases c11 : x7_2 = true
           ·
            subst c11
            have H1 : (q17z.l1 k2 l1 true l0 (l0.length : Int) x12_1 l1 (l1.length : Int) (wrap64 (x18_2 + 1)) ((rd_T50 l0 x12_1).f0) ((rd_T50 l0 x12_1).f1)) = some r := by rw [if_pos rfl] at H; exact H
            clear H
            have H := H1
            clear H1
            have H' := Aside0.mk H
            clear H
            have p3 : 0 ≤ (x18_2 : Int) := of_decide_eq_true (by first | (with_reducible assumption) | assumption)
            have q3 : x18_2 < (l1.length : Int) := of_decide_eq_true (by first | (with_reducible assumption) | assumption)
            obtain ⟨ad3, e3, hx3_0⟩ := Kd.at_int HR1.out x18_2 p3 q3
            cases e3
            replace hx3_0 := (HB.out.cell (World.block_lt_of_cell? w _ hx3_0)).trans hx3_0
            replace p3 := eq_true p3
            replace q3 := eq_true q3
            go_wp2
            go_roundg k2
            case measure => have := HK1.out; have := HK2.out; omega
            case rel => exact ⟨(true), (wrap64 (x18_2 + 1)), (by first | rfl | (simp; done) | (simp [*]; done)), (by first | rfl | (simp; done) | (simp [*]; done)), H', ⟨by have := HK1.out; have := HK2.out; omega⟩, ⟨by (with_reducible repeat (first | refine blk_drewN ?_ _ | refine blk_drew ?_ | refine blk_alloc ?_ _)); exact BK2.out⟩, ⟨hbW HB⟩⟩
           ·
            replace c11 := Bool.eq_false_iff.mpr c11
            subst c11
            have H1 : ((q16z.f ((rd_T50 l0 x12_1).f0) ((rd_T50 l0 x12_1).f1) (rd l1 x18_2)).bind fun t4 => (q17z.l1 k2 l1 t4 l0 (l0.length : Int) x12_1 l1 (l1.length : Int) (wrap64 (x18_2 + 1)) ((rd_T50 l0 x12_1).f0) ((rd_T50 l0 x12_1).f1))) = some r := by rw [if_neg (show ¬ (false = true) by decide)] at H; exact H
            clear H
            have H := H1
            clear H1
            replace H := Option.bind_eq_some_iff.mp H
            obtain ⟨t4, A120, H⟩ := H
            replace H : (q17z.l1 k2 l1 t4 l0 (l0.length : Int) x12_1 l1 (l1.length : Int) (wrap64 (x18_2 + 1)) ((rd_T50 l0 x12_1).f0) ((rd_T50 l0 x12_1).f1)) = some r := H
            have A12 := Aside0.mk A120
            clear A120
            have H' := Aside0.mk H
            clear H
            have p3 : 0 ≤ (x18_2 : Int) := of_decide_eq_true (by first | (with_reducible assumption) | assumption)
            have q3 : x18_2 < (l1.length : Int) := of_decide_eq_true (by first | (with_reducible assumption) | assumption)
            obtain ⟨ad3, e3, hx3_0⟩ := Kd.at_int HR1.out x18_2 p3 q3
            cases e3
            replace hx3_0 := (HB.out.cell (World.block_lt_of_cell? w _ hx3_0)).trans hx3_0
            replace p3 := eq_true p3
            replace q3 := eq_true q3
            have hcz13_0 : wr.cell? ⟨gb2, 0, none⟩ = some (.int .u32 ((rd_T50 l0 x12_1).f0)) := (blk_cell BK2.out 0).trans rfl
            have hcz13_1 : wr.cell? ⟨gb2, 1, none⟩ = some (.int .u32 ((rd_T50 l0 x12_1).f1)) := (blk_cell BK2.out 1).trans rfl
            have hfz13_0 := blk_frozen BK2.out 0
            have hfz13_1 := blk_frozen BK2.out 1
            go_wp2_with (first | (go_at_call 60; (with_reducible refine (q16z.calls ((rd_T50 l0 x12_1).f0) ((rd_T50 l0 x12_1).f1) (rd l1 x18_2) t4 _ A12.out).mono ?_); rintro e w14 ⟨rfl, hb⟩; have n0_ := bkB BK2 hb; have n1_ := hbS HB hb; clear BK2; clear HB; have BK2 := n0_; have HB := n1_; clear n0_ n1_; (try clear hb); (try clear hb2); (try clear hk); (try clear hi)))
            go_roundg k2
            case measure => have := HK1.out; have := HK2.out; omega
            case rel => exact ⟨(t4), (wrap64 (x18_2 + 1)), (by first | rfl | (simp; done) | (simp [*]; done)), (by first | rfl | (simp; done) | (simp [*]; done)), H', ⟨by have := HK1.out; have := HK2.out; omega⟩, ⟨by (with_reducible repeat (first | refine blk_drewN ?_ _ | refine blk_drew ?_ | refine blk_alloc ?_ _)); exact BK2.out⟩, ⟨hbW HB⟩⟩
          ·
           rw [if_neg c10] at H
           exact absurd H (by simp)
         ·
          rw [if_neg c9] at H
          exact absurd H (by simp)
        ·
         rw [if_neg c8] at H
         have c8b0 : decide (x18_2 < (l1.length : Int)) = false := decide_eq_false c8
         clear c8
         by_cases c15 : x7_2 = true
         ·
          subst c15
          have H1 : (q17z.l0 k2 l1 l0 (l0.length : Int) (wrap64 (x12_1 + 1))) = some r := by rw [if_pos rfl] at H; exact H
          clear H
          have H := H1
          clear H1
          have H' := Aside0.mk H
          clear H
          go_wp2
          go_roundg k2
          case measure => have := HK1.out; have := HK2.out; omega
          case rel => exact ⟨(wrap64 (x12_1 + 1)), (by first | rfl | (simp; done) | (simp [*]; done)), H', ⟨by have := HK1.out; have := HK2.out; omega⟩, ⟨hbW HB⟩⟩
         ·
          replace c15 := Bool.eq_false_iff.mpr c15
          subst c15
          have H1 : (some false) = some r := by rw [if_neg (show ¬ (false = true) by decide)] at H; exact H
          clear H
          have H := H1
          clear H1
          obtain rfl := Option.some.inj H
          go_wp2
          go_ret
          exact ⟨by first | rfl | (simp [errW_none, errW_some] <;> rfl) | (simp [*, errW_none, errW_some] <;> rfl), hbW HB⟩
     ·
      rw [if_neg c5] at H
      exact absurd H (by simp)
    ·
     rw [if_neg c4] at H
     exact absurd H (by simp)
   ·
    rw [if_neg c3] at H
    have c3b0 : decide (x12_1 < (l0.length : Int)) = false := decide_eq_false c3
    clear c3
    obtain rfl := Option.some.inj H
    go_wp2
    go_ret
    exact ⟨by first | rfl | (simp [errW_none, errW_some] <;> rfl) | (simp [*, errW_none, errW_some] <;> rfl), hbW HB⟩

end Go.Proofs.Ytgelpccjdndfoaa.P

namespace Go.Proofs.Ytgelpccjdndfoaa.P
open Go.RowKit Go.Proofs.YtgelpccjdndfoaaW.PrintWords Go.Proofs.YtgelpccjdndfoaaW.PrintLast Go.Proofs.YtgelpccjdndfoaaW.PrintMore
attribute [local go_sem] max2_int min2_int max_two min_two max_three min_three max_four min_four
set_option linter.unusedVariables false
set_option linter.unusedSimpArgs false

/-! ### dragomanref11_TakesComms: function 21 -/
def q18z.l0 : Nat → List Int → List (S53) → Int → Int → Option (Bool)
 | 0, _, _, _, _ => none
 | k + 1, x1, x7, x8, x9 => if x9 < x8 then (if 0 ≤ x9 then (if x9 < (x7.length : Int) then ((q17z.f k ((rd_T53 x7 x9).f1) x1).bind fun t3 => (if t3 = true then (some (!((rd_T53 x7 x9).f0))) else (q18z.l0 k x1 x7 x8 (wrap64 (x9 + 1))))) else (none)) else (none)) else (some false)
def q18z.f (k : Nat) (l0 : List (S53)) (l1 : List Int) : Option (Bool) := q18z.l0 k l1 l0 (l0.length : Int) 0
theorem q18z.mono_l : ∀ k, (∀ y0 y1 y2 y3, LeO (q18z.l0 k y0 y1 y2 y3) (q18z.l0 (k + 1) y0 y1 y2 y3))
 | 0 => fun _ _ _ _ r h => by simp [q18z.l0] at h
 | k + 1 => by
  have ih0 := q18z.mono_l k
  ·
   intro y0 y1 y2 y3
   unfold q18z.l0
   repeat' first
   | (with_reducible exact ih0 _ _ _ _)
   | (with_reducible exact q17z.mono _ _ _)
   | (with_reducible exact LeO.refl _)
   | (with_reducible exact LeO.none _)
   | (with_reducible refine LeO.ite ?_ ?_)
   | (with_reducible refine LeO.bind ?_ (fun _ => ?_))
   | exact ih0 _ _ _ _
   | exact q17z.mono _ _ _
   | exact LeO.none _
   | refine LeO.ite ?_ ?_
   | refine LeO.bind ?_ (fun _ => ?_)
theorem q18z.mono : ∀ a0 a1 k, LeO (q18z.f k a0 a1) (q18z.f (k + 1) a0 a1) := by
 intro a0 a1 k
 have ih0 := q18z.mono_l k
 unfold q18z.f
 repeat' first
   | (with_reducible exact ih0 _ _ _ _)
   | (with_reducible exact q17z.mono _ _ _)
   | (with_reducible exact LeO.refl _)
   | (with_reducible exact LeO.none _)
   | (with_reducible refine LeO.ite ?_ ?_)
   | (with_reducible refine LeO.bind ?_ (fun _ => ?_))
   | exact ih0 _ _ _ _
   | exact q17z.mono _ _ _
   | exact LeO.none _
   | refine LeO.ite ?_ ?_
   | refine LeO.bind ?_ (fun _ => ?_)
set_option maxHeartbeats 8000000 in
set_option maxRecDepth 100000 in
theorem q18z.calls (k : Nat) (A0 : Option Addr) (c0 : Nat) (l0 : List (S53)) (A1 : Option Addr) (c1 : Nat) (l1 : List Int) (r : Bool) (w : World) (hr0 : Kd.C k53 w A0 l0.length l0) (hc0 : l0.length ≤ c0) (hr1 : Kd.C (Kd.int .u32) w A1 l1.length l1) (hc1 : l1.length ≤ c1) (h : q18z.f k l0 l1 = some r) :
  Calls Try.prog 21 #[.slice A0 l0.length c0, .slice A1 l1.length c1] w fun e w' => e = .returned (.bool r) ∧ Below w.heap.size w w' := by
 have hu53 := Try.underlying53
 have HR0 := Aside0.mk hr0
 have HC0 := Aside0.mk hc0
 clear hr0 hc0
 have HR1 := Aside0.mk hr1
 have HC1 := Aside0.mk hc1
 clear hr1 hc1
 have HB := Aside0.mk (Below.refl w.heap.size w)
 have H : (q18z.l0 k l1 l0 (l0.length : Int) 0) = some r := h
 clear h
 have H' := Aside0.mk H
 clear H
 go_enter Try.func21, Try.ntmps21
 go_wp2
 go_loopg [9] k (fun kq v9 w' => ∃ (x9_1 : Int), v9 = .int .i64 x9_1 ∧ Aside0 (q18z.l0 kq l1 l0 (l0.length : Int) x9_1 = some r) ∧ Aside0 (kq ≤ k) ∧ Aside0 (Below w.heap.size w w'))
 case atStart => exact ⟨(0), (by first | rfl | (simp; done) | (simp [*]; done)), H', ⟨Nat.le_refl _⟩, ⟨hbW HB⟩⟩
 case round =>
  clear H'
  try clear c1
  try clear c2
  try clear p2
  obtain ⟨x9_1, rfl, HA, HK1, HB⟩ := hrel
  cases gk with
  | zero => exact absurd HA.out (by simp [q18z.l0])
  | succ k1 =>
   have H := HA.out
   clear HA
   simp only [q18z.l0] at H
   by_cases c3 : x9_1 < (l0.length : Int)
   ·
    rw [if_pos c3] at H
    have c3b0 : decide (x9_1 < (l0.length : Int)) = true := decide_eq_true c3
    clear c3
    by_cases c4 : 0 ≤ x9_1
    ·
     rw [if_pos c4] at H
     have c4b0 : decide (0 ≤ x9_1) = true := decide_eq_true c4
     clear c4
     by_cases c5 : x9_1 < (l0.length : Int)
     ·
      rw [if_pos c5] at H
      have c5b0 : decide (x9_1 < (l0.length : Int)) = true := decide_eq_true c5
      clear c5
      replace H := Option.bind_eq_some_iff.mp H
      obtain ⟨t3, A60, H⟩ := H
      replace H : (if t3 = true then (some (!((rd_T53 l0 x9_1).f0))) else (q18z.l0 k1 l1 l0 (l0.length : Int) (wrap64 (x9_1 + 1)))) = some r := H
      have A6 := Aside0.mk A60
      clear A60
      by_cases c7 : t3 = true
      ·
       subst c7
       have H1 : (some (!((rd_T53 l0 x9_1).f0))) = some r := by rw [if_pos rfl] at H; exact H
       clear H
       have H := H1
       clear H1
       obtain rfl := Option.some.inj H
       have p1 : 0 ≤ (x9_1 : Int) := of_decide_eq_true (by first | (with_reducible assumption) | assumption)
       have q1 : x9_1 < (l0.length : Int) := of_decide_eq_true (by first | (with_reducible assumption) | assumption)
       obtain ⟨ad1, A1_1, c1_1, e1, hx1_0, hx1_1, hl1_1, hi1_1⟩ := at_T53 HR0.out x9_1 p1 q1
       cases e1
       replace hx1_0 := (HB.out.cell (World.block_lt_of_cell? w _ hx1_0)).trans hx1_0
       replace hx1_1 := (HB.out.cell (World.block_lt_of_cell? w _ hx1_1)).trans hx1_1
       have HR1_1 := Aside0.mk hi1_1
       have HC1_1 := Aside0.mk hl1_1
       clear hi1_1 hl1_1
       replace p1 := eq_true p1
       replace q1 := eq_true q1
       go_wp2_with (first | ((with_reducible refine gate_dst (N := 6) rfl ?_); refine box_event ?hg (N := 6) ?hd (cs := #[.bool false, .slice none 0 0]) (t := 53) ?hr ?_; (case hd => rfl); (case hg => rfl); (case hr => first | (go_simp; done) | (go_simp; rfl)); intro gb2 hg w8 hbox hb; have n0_ := hbS HB hb; have n1_ := Aside0.mk (hbox); have n2_ := Aside0.mk ((by rw [hg]; exact (below_size (hbW HB)) : w.heap.size ≤ gb2)); have n3_ := Aside0.mk ((by rw [hg]; exact (below_size (hbW HB)) : w.heap.size ≤ gb2)); clear HB; have HB := n0_; have BK2 := n1_; have GW2 := n2_; have GE2 := n3_; clear n0_ n1_ n2_ n3_; clear hb hbox hg; have hcz9_0 : w8.cell? ⟨gb2, 0, none⟩ = some (.bool false) := (blk_cell BK2.out 0).trans rfl; have hcz9_1 : w8.cell? ⟨gb2, 1, none⟩ = some (.slice none 0 0) := (blk_cell BK2.out 1).trans rfl; have hfz9_0 := blk_frozen BK2.out 0; have hfz9_1 := blk_frozen BK2.out 1) | ((with_reducible refine gate_callee (f := 39) rfl ?_); refine goesL_ (some 16) rfl rfl Try.func39 (by kernel_rfl) rfl #[.slice A1_1 ((rd_T53 l0 x9_1).f1).length c1_1, .slice A1 l1.length c1] rfl (by (try simp only [List.map_toArray, List.map_cons, List.map_nil]); first | done | rfl | (simp only [List.length_drop, List.length_take]; rfl)) ?_; (with_reducible refine (q17z.calls k1 _ _ ((rd_T53 l0 x9_1).f1) _ _ l1 true _ ?side1 ?side2 ?side3 ?side4 A6.out).mono ?_); (case side1 => exact Kd.C_below HR1_1.out (hbW HB)); (case side2 => exact HC1_1.out); (case side3 => exact Kd.C_below HR1.out (hbW HB)); (case side4 => exact HC1.out); rintro e w10 ⟨rfl, hb⟩; refine ⟨_, rfl, ?_⟩; have n0_ := Aside0.mk (blk_below (g := gb2) (o := .cells #[.bool ((rd_T53 l0 x9_1).f0), .slice A1_1 ((rd_T53 l0 x9_1).f1).length c1_1] 53 (0, 0)) (bp2 BK2) hb); have n1_ := hbS HB hb; clear BK2; clear HB; have BK2 := n0_; have HB := n1_; clear n0_ n1_; (try clear hb); (try clear hb2); (try clear hk); (try clear hi); have hcz11_0 : w10.cell? ⟨gb2, 0, none⟩ = some (.bool ((rd_T53 l0 x9_1).f0)) := (blk_cell BK2.out 0).trans rfl; have hcz11_1 : w10.cell? ⟨gb2, 1, none⟩ = some (.slice A1_1 ((rd_T53 l0 x9_1).f1).length c1_1) := (blk_cell BK2.out 1).trans rfl; have hfz11_0 := blk_frozen BK2.out 0; have hfz11_1 := blk_frozen BK2.out 1))
       go_ret
       exact ⟨by first | rfl | (simp [errW_none, errW_some] <;> rfl) | (simp [*, errW_none, errW_some] <;> rfl), hbW HB⟩
      ·
       replace c7 := Bool.eq_false_iff.mpr c7
       subst c7
       have H1 : (q18z.l0 k1 l1 l0 (l0.length : Int) (wrap64 (x9_1 + 1))) = some r := by rw [if_neg (show ¬ (false = true) by decide)] at H; exact H
       clear H
       have H := H1
       clear H1
       have H' := Aside0.mk H
       clear H
       have p1 : 0 ≤ (x9_1 : Int) := of_decide_eq_true (by first | (with_reducible assumption) | assumption)
       have q1 : x9_1 < (l0.length : Int) := of_decide_eq_true (by first | (with_reducible assumption) | assumption)
       obtain ⟨ad1, A1_1, c1_1, e1, hx1_0, hx1_1, hl1_1, hi1_1⟩ := at_T53 HR0.out x9_1 p1 q1
       cases e1
       replace hx1_0 := (HB.out.cell (World.block_lt_of_cell? w _ hx1_0)).trans hx1_0
       replace hx1_1 := (HB.out.cell (World.block_lt_of_cell? w _ hx1_1)).trans hx1_1
       have HR1_1 := Aside0.mk hi1_1
       have HC1_1 := Aside0.mk hl1_1
       clear hi1_1 hl1_1
       replace p1 := eq_true p1
       replace q1 := eq_true q1
       go_wp2_with (first | ((with_reducible refine gate_dst (N := 6) rfl ?_); refine box_event ?hg (N := 6) ?hd (cs := #[.bool false, .slice none 0 0]) (t := 53) ?hr ?_; (case hd => rfl); (case hg => rfl); (case hr => first | (go_simp; done) | (go_simp; rfl)); intro gb2 hg w12 hbox hb; have n0_ := hbS HB hb; have n1_ := Aside0.mk (hbox); have n2_ := Aside0.mk ((by rw [hg]; exact (below_size (hbW HB)) : w.heap.size ≤ gb2)); have n3_ := Aside0.mk ((by rw [hg]; exact (below_size (hbW HB)) : w.heap.size ≤ gb2)); clear HB; have HB := n0_; have BK2 := n1_; have GW2 := n2_; have GE2 := n3_; clear n0_ n1_ n2_ n3_; clear hb hbox hg; have hcz13_0 : w12.cell? ⟨gb2, 0, none⟩ = some (.bool false) := (blk_cell BK2.out 0).trans rfl; have hcz13_1 : w12.cell? ⟨gb2, 1, none⟩ = some (.slice none 0 0) := (blk_cell BK2.out 1).trans rfl; have hfz13_0 := blk_frozen BK2.out 0; have hfz13_1 := blk_frozen BK2.out 1) | ((with_reducible refine gate_callee (f := 39) rfl ?_); refine goesL_ (some 16) rfl rfl Try.func39 (by kernel_rfl) rfl #[.slice A1_1 ((rd_T53 l0 x9_1).f1).length c1_1, .slice A1 l1.length c1] rfl (by (try simp only [List.map_toArray, List.map_cons, List.map_nil]); first | done | rfl | (simp only [List.length_drop, List.length_take]; rfl)) ?_; (with_reducible refine (q17z.calls k1 _ _ ((rd_T53 l0 x9_1).f1) _ _ l1 false _ ?side1 ?side2 ?side3 ?side4 A6.out).mono ?_); (case side1 => exact Kd.C_below HR1_1.out (hbW HB)); (case side2 => exact HC1_1.out); (case side3 => exact Kd.C_below HR1.out (hbW HB)); (case side4 => exact HC1.out); rintro e w14 ⟨rfl, hb⟩; refine ⟨_, rfl, ?_⟩; have n0_ := Aside0.mk (blk_below (g := gb2) (o := .cells #[.bool ((rd_T53 l0 x9_1).f0), .slice A1_1 ((rd_T53 l0 x9_1).f1).length c1_1] 53 (0, 0)) (bp2 BK2) hb); have n1_ := hbS HB hb; clear BK2; clear HB; have BK2 := n0_; have HB := n1_; clear n0_ n1_; (try clear hb); (try clear hb2); (try clear hk); (try clear hi)))
       go_roundg k1
       case measure => have := HK1.out; omega
       case rel => exact ⟨(wrap64 (x9_1 + 1)), (by first | rfl | (simp; done) | (simp [*]; done)), H', ⟨by have := HK1.out; omega⟩, ⟨hbW HB⟩⟩
     ·
      rw [if_neg c5] at H
      exact absurd H (by simp)
    ·
     rw [if_neg c4] at H
     exact absurd H (by simp)
   ·
    rw [if_neg c3] at H
    have c3b0 : decide (x9_1 < (l0.length : Int)) = false := decide_eq_false c3
    clear c3
    obtain rfl := Option.some.inj H
    go_wp2
    go_ret
    exact ⟨by first | rfl | (simp [errW_none, errW_some] <;> rfl) | (simp [*, errW_none, errW_some] <;> rfl), hbW HB⟩

end Go.Proofs.Ytgelpccjdndfoaa.P

namespace Go.Proofs.Ytgelpccjdndfoaa.P
open Go.RowKit Go.Proofs.YtgelpccjdndfoaaW.PrintWords Go.Proofs.YtgelpccjdndfoaaW.PrintLast Go.Proofs.YtgelpccjdndfoaaW.PrintMore
attribute [local go_sem] max2_int min2_int max_two min_two max_three min_three max_four min_four
set_option linter.unusedVariables false
set_option linter.unusedSimpArgs false

/-! ### dragomanref03_Sorted: function 37 -/
mutual
def q19z.l0 : Nat → List Int → List Int → Int → Int → Option (List Int)
 | 0, _, _, _, _ => none
 | k + 1, x3, x8, x9, x10 => if x10 < x9 then (if 0 ≤ x10 then (if x10 < (x8.length : Int) then (q19z.l1 k x3 (rd x8 x10) 0 x8 x9 x10) else (none)) else (none)) else (some x3)
def q19z.j2 : Nat → List Int → Int → Int → List Int → Int → Int → Option (List Int)
 | 0, _, _, _, _, _, _ => none
 | k + 1, x3, x5, x6, x8, x9, x10 => if x6 < (x3.length : Int) then (if 0 ≤ x6 then (q19z.j3 k x3 x5 x6 x8 x9 x10 ((rd x3 x6) == x5)) else (none)) else (q19z.j3 k x3 x5 x6 x8 x9 x10 false)
def q19z.j3 : Nat → List Int → Int → Int → List Int → Int → Int → Bool → Option (List Int)
 | 0, _, _, _, _, _, _, _ => none
 | k + 1, x3, x5, x6, x8, x9, x10, x39 => if x39 = true then (q19z.l0 k x3 x8 x9 (wrap64 (x10 + 1))) else (if x3.length < 35184372088832 then ((some (x3 ++ [0] : List Int)).bind fun y4 => (q19z.l2 k y4 x5 x6 (wrap64 ((y4.length : Int) - 1)) x8 x9 x10)) else (none))
def q19z.l2 : Nat → List Int → Int → Int → Int → List Int → Int → Int → Option (List Int)
 | 0, _, _, _, _, _, _, _ => none
 | k + 1, x3, x5, x6, x7, x8, x9, x10 => if x7 > x6 then (if 0 ≤ (wrap64 (x7 - 1)) then (if (wrap64 (x7 - 1)) < (x3.length : Int) then (if 0 ≤ x7 then (if x7 < (x3.length : Int) then (q19z.l2 k (x3.set (x7 : Int).toNat (rd x3 (wrap64 (x7 - 1)))) x5 x6 (wrap64 (x7 - 1)) x8 x9 x10) else (none)) else (none)) else (none)) else (none)) else (if 0 ≤ x6 then (if x6 < (x3.length : Int) then (q19z.l0 k (x3.set (x6 : Int).toNat x5) x8 x9 (wrap64 (x10 + 1))) else (none)) else (none))
def q19z.l1 : Nat → List Int → Int → Int → List Int → Int → Int → Option (List Int)
 | 0, _, _, _, _, _, _ => none
 | k + 1, x3, x5, x6, x8, x9, x10 => if x6 < (x3.length : Int) then (if 0 ≤ x6 then (if (rd x3 x6) < x5 then (q19z.l1 k x3 x5 (wrap64 (x6 + 1)) x8 x9 x10) else (q19z.j2 k x3 x5 x6 x8 x9 x10)) else (none)) else (q19z.j2 k x3 x5 x6 x8 x9 x10)
end
def q19z.f (k : Nat) (l0 : List Int) : Option (List Int) := q19z.l0 k ([] : List Int) l0 (l0.length : Int) 0
theorem q19z.mono_l : ∀ k, (∀ y0 y1 y2 y3, LeO (q19z.l0 k y0 y1 y2 y3) (q19z.l0 (k + 1) y0 y1 y2 y3)) ∧ (∀ y0 y1 y2 y3 y4 y5, LeO (q19z.j2 k y0 y1 y2 y3 y4 y5) (q19z.j2 (k + 1) y0 y1 y2 y3 y4 y5)) ∧ (∀ y0 y1 y2 y3 y4 y5 y6, LeO (q19z.j3 k y0 y1 y2 y3 y4 y5 y6) (q19z.j3 (k + 1) y0 y1 y2 y3 y4 y5 y6)) ∧ (∀ y0 y1 y2 y3 y4 y5 y6, LeO (q19z.l2 k y0 y1 y2 y3 y4 y5 y6) (q19z.l2 (k + 1) y0 y1 y2 y3 y4 y5 y6)) ∧ (∀ y0 y1 y2 y3 y4 y5, LeO (q19z.l1 k y0 y1 y2 y3 y4 y5) (q19z.l1 (k + 1) y0 y1 y2 y3 y4 y5))
 | 0 => ⟨fun _ _ _ _ r h => by simp [q19z.l0] at h, fun _ _ _ _ _ _ r h => by simp [q19z.j2] at h, fun _ _ _ _ _ _ _ r h => by simp [q19z.j3] at h, fun _ _ _ _ _ _ _ r h => by simp [q19z.l2] at h, fun _ _ _ _ _ _ r h => by simp [q19z.l1] at h⟩
 | k + 1 => by
  obtain ⟨ih0, ih1, ih2, ih3, ih4⟩ := q19z.mono_l k
  refine ⟨?_, ?_, ?_, ?_, ?_⟩
  ·
   intro y0 y1 y2 y3
   unfold q19z.l0
   repeat' first
   | (with_reducible exact ih0 _ _ _ _)
   | (with_reducible exact ih1 _ _ _ _ _ _)
   | (with_reducible exact ih2 _ _ _ _ _ _ _)
   | (with_reducible exact ih3 _ _ _ _ _ _ _)
   | (with_reducible exact ih4 _ _ _ _ _ _)
   | (with_reducible exact LeO.refl _)
   | (with_reducible exact LeO.none _)
   | (with_reducible refine LeO.ite ?_ ?_)
   | (with_reducible refine LeO.bind ?_ (fun _ => ?_))
   | exact ih0 _ _ _ _
   | exact ih1 _ _ _ _ _ _
   | exact ih2 _ _ _ _ _ _ _
   | exact ih3 _ _ _ _ _ _ _
   | exact ih4 _ _ _ _ _ _
   | exact LeO.none _
   | refine LeO.ite ?_ ?_
   | refine LeO.bind ?_ (fun _ => ?_)
  ·
   intro y0 y1 y2 y3 y4 y5
   unfold q19z.j2
   repeat' first
   | (with_reducible exact ih0 _ _ _ _)
   | (with_reducible exact ih1 _ _ _ _ _ _)
   | (with_reducible exact ih2 _ _ _ _ _ _ _)
   | (with_reducible exact ih3 _ _ _ _ _ _ _)
   | (with_reducible exact ih4 _ _ _ _ _ _)
   | (with_reducible exact LeO.refl _)
   | (with_reducible exact LeO.none _)
   | (with_reducible refine LeO.ite ?_ ?_)
   | (with_reducible refine LeO.bind ?_ (fun _ => ?_))
   | exact ih0 _ _ _ _
   | exact ih1 _ _ _ _ _ _
   | exact ih2 _ _ _ _ _ _ _
   | exact ih3 _ _ _ _ _ _ _
   | exact ih4 _ _ _ _ _ _
   | exact LeO.none _
   | refine LeO.ite ?_ ?_
   | refine LeO.bind ?_ (fun _ => ?_)
  ·
   intro y0 y1 y2 y3 y4 y5 y6
   unfold q19z.j3
   repeat' first
   | (with_reducible exact ih0 _ _ _ _)
   | (with_reducible exact ih1 _ _ _ _ _ _)
   | (with_reducible exact ih2 _ _ _ _ _ _ _)
   | (with_reducible exact ih3 _ _ _ _ _ _ _)
   | (with_reducible exact ih4 _ _ _ _ _ _)
   | (with_reducible exact LeO.refl _)
   | (with_reducible exact LeO.none _)
   | (with_reducible refine LeO.ite ?_ ?_)
   | (with_reducible refine LeO.bind ?_ (fun _ => ?_))
   | exact ih0 _ _ _ _
   | exact ih1 _ _ _ _ _ _
   | exact ih2 _ _ _ _ _ _ _
   | exact ih3 _ _ _ _ _ _ _
   | exact ih4 _ _ _ _ _ _
   | exact LeO.none _
   | refine LeO.ite ?_ ?_
   | refine LeO.bind ?_ (fun _ => ?_)
  ·
   intro y0 y1 y2 y3 y4 y5 y6
   unfold q19z.l2
   repeat' first
   | (with_reducible exact ih0 _ _ _ _)
   | (with_reducible exact ih1 _ _ _ _ _ _)
   | (with_reducible exact ih2 _ _ _ _ _ _ _)
   | (with_reducible exact ih3 _ _ _ _ _ _ _)
   | (with_reducible exact ih4 _ _ _ _ _ _)
   | (with_reducible exact LeO.refl _)
   | (with_reducible exact LeO.none _)
   | (with_reducible refine LeO.ite ?_ ?_)
   | (with_reducible refine LeO.bind ?_ (fun _ => ?_))
   | exact ih0 _ _ _ _
   | exact ih1 _ _ _ _ _ _
   | exact ih2 _ _ _ _ _ _ _
   | exact ih3 _ _ _ _ _ _ _
   | exact ih4 _ _ _ _ _ _
   | exact LeO.none _
   | refine LeO.ite ?_ ?_
   | refine LeO.bind ?_ (fun _ => ?_)
  ·
   intro y0 y1 y2 y3 y4 y5
   unfold q19z.l1
   repeat' first
   | (with_reducible exact ih0 _ _ _ _)
   | (with_reducible exact ih1 _ _ _ _ _ _)
   | (with_reducible exact ih2 _ _ _ _ _ _ _)
   | (with_reducible exact ih3 _ _ _ _ _ _ _)
   | (with_reducible exact ih4 _ _ _ _ _ _)
   | (with_reducible exact LeO.refl _)
   | (with_reducible exact LeO.none _)
   | (with_reducible refine LeO.ite ?_ ?_)
   | (with_reducible refine LeO.bind ?_ (fun _ => ?_))
   | exact ih0 _ _ _ _
   | exact ih1 _ _ _ _ _ _
   | exact ih2 _ _ _ _ _ _ _
   | exact ih3 _ _ _ _ _ _ _
   | exact ih4 _ _ _ _ _ _
   | exact LeO.none _
   | refine LeO.ite ?_ ?_
   | refine LeO.bind ?_ (fun _ => ?_)
theorem q19z.mono : ∀ a0 k, LeO (q19z.f k a0) (q19z.f (k + 1) a0) := by
 intro a0 k
 obtain ⟨ih0, ih1, ih2, ih3, ih4⟩ := q19z.mono_l k
 unfold q19z.f
 repeat' first
   | (with_reducible exact ih0 _ _ _ _)
   | (with_reducible exact ih1 _ _ _ _ _ _)
   | (with_reducible exact ih2 _ _ _ _ _ _ _)
   | (with_reducible exact ih3 _ _ _ _ _ _ _)
   | (with_reducible exact ih4 _ _ _ _ _ _)
   | (with_reducible exact LeO.refl _)
   | (with_reducible exact LeO.none _)
   | (with_reducible refine LeO.ite ?_ ?_)
   | (with_reducible refine LeO.bind ?_ (fun _ => ?_))
   | exact ih0 _ _ _ _
   | exact ih1 _ _ _ _ _ _
   | exact ih2 _ _ _ _ _ _ _
   | exact ih3 _ _ _ _ _ _ _
   | exact ih4 _ _ _ _ _ _
   | exact LeO.none _
   | refine LeO.ite ?_ ?_
   | refine LeO.bind ?_ (fun _ => ?_)
set_option maxHeartbeats 8000000 in
set_option maxRecDepth 100000 in
theorem q19z.calls (k : Nat) (A0 : Option Addr) (c0 : Nat) (l0 : List Int) (r : List Int) (w : World) (hr0 : Kd.C (Kd.int .u32) w A0 l0.length l0) (hc0 : l0.length ≤ c0) (h : q19z.f k l0 = some r) :
  Calls Try.prog 37 #[.slice A0 l0.length c0] w fun e w' => ∃ v0_ : Value, e = .returned (v0_) ∧ Kd.R (Kd.int .u32) 22 w' w.heap.size (fun _ => True) v0_ r ∧ Below w.heap.size w w' := by
 have HR0 := Aside0.mk hr0
 have HC0 := Aside0.mk hc0
 clear hr0 hc0
 have HB := Aside0.mk (Below.refl w.heap.size w)
 have H : (q19z.l0 k ([] : List Int) l0 (l0.length : Int) 0) = some r := h
 clear h
 have H' := Aside0.mk H
 clear H
 go_enter Try.func37, Try.ntmps37
 go_wp2
 go_loopg [3, 10] k (fun kq v3 v10 w' => ∃ (x3_1 : List Int) (x10_1 : Int), v10 = .int .i64 x10_1 ∧ Aside0 (q19z.l0 kq x3_1 l0 (l0.length : Int) x10_1 = some r) ∧ Aside0 (kq ≤ k) ∧ Aside0 (Kd.R (Kd.int .u32) 22 w' w.heap.size (fun _ => True) v3 x3_1) ∧ Aside0 (Below w.heap.size w w'))
 case atStart => exact ⟨(([] : List Int)), (0), (by first | rfl | (simp; done) | (simp [*]; done)), H', ⟨Nat.le_refl _⟩, ⟨by first | exact Kd.R_nil _ _ _ _ _ | exact Kd.N_nil _ _ _ _ _ | exact Kd.V_nil _ _ _ _ _ | exact Kd.Q_nil _ _ _ _ _ | exact Kd.S_nil _ _ _ _ _⟩, ⟨hbW HB⟩⟩
 case round =>
  clear H'
  obtain ⟨x3_1, x10_1, rfl, HA, HK1, HO_3, HB⟩ := hrel
  cases gk with
  | zero => exact absurd HA.out (by simp [q19z.l0])
  | succ k1 =>
   have H := HA.out
   clear HA
   simp only [q19z.l0] at H
   by_cases c2 : x10_1 < (l0.length : Int)
   ·
    rw [if_pos c2] at H
    have c2b0 : decide (x10_1 < (l0.length : Int)) = true := decide_eq_true c2
    clear c2
    by_cases c3 : 0 ≤ x10_1
    ·
     rw [if_pos c3] at H
     have c3b0 : decide (0 ≤ x10_1) = true := decide_eq_true c3
     clear c3
     by_cases c4 : x10_1 < (l0.length : Int)
     ·
      rw [if_pos c4] at H
      have c4b0 : decide (x10_1 < (l0.length : Int)) = true := decide_eq_true c4
      clear c4
      have HC5 := Aside0.mk H
      clear H
      have p1 : 0 ≤ (x10_1 : Int) := of_decide_eq_true (by first | (with_reducible assumption) | assumption)
      have q1 : x10_1 < (l0.length : Int) := of_decide_eq_true (by first | (with_reducible assumption) | assumption)
      obtain ⟨ad1, e1, hx1_0⟩ := Kd.at_int HR0.out x10_1 p1 q1
      cases e1
      replace hx1_0 := (HB.out.cell (World.block_lt_of_cell? w _ hx1_0)).trans hx1_0
      replace p1 := eq_true p1
      replace q1 := eq_true q1
      go_upto_block 2 with (fail)
      go_cut [6] (fun v6 wc => ∃ (kq : Nat) (x6_4 : Int), v6 = .int .i64 x6_4 ∧ Aside0 (q19z.j2 kq x3_1 (rd l0 x10_1) x6_4 l0 (l0.length : Int) x10_1 = some r) ∧ Aside0 (kq ≤ k1) ∧ Aside0 (Kd.R (Kd.int .u32) 22 wc w.heap.size (fun _ => True) u3 x3_1) ∧ Aside0 (Below w.heap.size w wc))
      case first =>
       have H := HC5.out
       clear HC5
       have H' := Aside0.mk H
       clear H
       go_wp2
       go_loopg [6] k1 (fun kq v6 w' => ∃ (x6_2 : Int), v6 = .int .i64 x6_2 ∧ Aside0 (q19z.l1 kq x3_1 (rd l0 x10_1) x6_2 l0 (l0.length : Int) x10_1 = some r) ∧ Aside0 (kq ≤ k1) ∧ Aside0 (Kd.R (Kd.int .u32) 22 w' w.heap.size (fun _ => True) u3 x3_1) ∧ Aside0 (Below w.heap.size w w'))
       case atStart => exact ⟨(0), (by first | rfl | (simp; done) | (simp [*]; done)), H', ⟨Nat.le_refl _⟩, ⟨by (with_reducible repeat (first | apply Kd.R_alloc | apply Kd.R_drewN | apply Kd.R_drew)); exact HO_3.out⟩, ⟨hbW HB⟩⟩
       case round =>
        clear H'
        try clear p1
        try clear q1
        try clear hx1
        try clear c2
        try clear c2b0
        try clear p2
        try clear c3
        try clear c3b0
        try clear c4
        try clear c4b0
        try clear hx1_0
        try clear p1
        try clear q1
        obtain ⟨x6_2, rfl, HA, HK2, HO_3, HB⟩ := hrel
        cases gk with
        | zero => exact absurd HA.out (by simp [q19z.l1])
        | succ k2 =>
         have H := HA.out
         clear HA
         simp only [q19z.l1] at H
         by_cases c6 : x6_2 < (x3_1.length : Int)
         ·
          rw [if_pos c6] at H
          have c6b0 : decide (x6_2 < (x3_1.length : Int)) = true := decide_eq_true c6
          clear c6
          (first | rw [c6b0] | (simp only [i64_w, i32_w, IntKind.wrap_u32]; rw [c6b0]) | skip)
          by_cases c7 : 0 ≤ x6_2
          ·
           rw [if_pos c7] at H
           have c7b0 : decide (0 ≤ x6_2) = true := decide_eq_true c7
           clear c7
           by_cases c8 : (rd x3_1 x6_2) < (rd l0 x10_1)
           ·
            rw [if_pos c8] at H
            have c8b0 : decide ((rd x3_1 x6_2) < (rd l0 x10_1)) = true := decide_eq_true c8
            clear c8
            have H' := Aside0.mk H
            clear H
            obtain ⟨Ao9, co9, eo9⟩ := Kd.R_slice HO_3.out
            subst eo9
            have p2 : 0 ≤ (x6_2 : Int) := of_decide_eq_true (by first | (with_reducible assumption) | assumption)
            have q2 : x6_2 < (x3_1.length : Int) := of_decide_eq_true (by first | (with_reducible assumption) | assumption)
            obtain ⟨ad2, e2, hx2_0⟩ := Kd.at_int (Kd.R_reads' HO_3.out).2.2 x6_2 p2 q2
            cases e2
            replace p2 := eq_true p2
            replace q2 := eq_true q2
            go_wp2
            go_roundg k2
            case measure => have := HK1.out; have := HK2.out; omega
            case rel => exact ⟨(wrap64 (x6_2 + 1)), (by first | rfl | (simp; done) | (simp [*]; done)), H', ⟨by have := HK1.out; have := HK2.out; omega⟩, ⟨by (with_reducible repeat (first | apply Kd.R_alloc | apply Kd.R_drewN | apply Kd.R_drew)); exact HO_3.out⟩, ⟨hbW HB⟩⟩
           ·
            rw [if_neg c8] at H
            have c8b0 : decide ((rd x3_1 x6_2) < (rd l0 x10_1)) = false := decide_eq_false c8
            clear c8
            have H' := Aside0.mk H
            clear H
            obtain ⟨Ao10, co10, eo10⟩ := Kd.R_slice HO_3.out
            subst eo10
            have p2 : 0 ≤ (x6_2 : Int) := of_decide_eq_true (by first | (with_reducible assumption) | assumption)
            have q2 : x6_2 < (x3_1.length : Int) := of_decide_eq_true (by first | (with_reducible assumption) | assumption)
            obtain ⟨ad2, e2, hx2_0⟩ := Kd.at_int (Kd.R_reads' HO_3.out).2.2 x6_2 p2 q2
            cases e2
            replace p2 := eq_true p2
            replace q2 := eq_true q2
            go_wp2
            go_meet
            case rel => exact ⟨_, (x6_2), (by first | rfl | (simp; done) | (simp [*]; done)), H', ⟨by have := HK1.out; have := HK2.out; first | omega | exact Nat.le_refl _⟩, ⟨by (with_reducible repeat (first | apply Kd.R_alloc | apply Kd.R_drewN | apply Kd.R_drew)); exact HO_3.out⟩, ⟨hbW HB⟩⟩
          ·
           rw [if_neg c7] at H
           exact absurd H (by simp)
         ·
          rw [if_neg c6] at H
          have c6b0 : decide (x6_2 < (x3_1.length : Int)) = false := decide_eq_false c6
          clear c6
          (first | rw [c6b0] | (simp only [i64_w, i32_w, IntKind.wrap_u32]; rw [c6b0]) | skip)
          have H' := Aside0.mk H
          clear H
          obtain ⟨Ao11, co11, eo11⟩ := Kd.R_slice HO_3.out
          subst eo11
          go_wp2
          go_meet
          case rel => exact ⟨_, (x6_2), (by first | rfl | (simp; done) | (simp [*]; done)), H', ⟨by have := HK1.out; have := HK2.out; first | omega | exact Nat.le_refl _⟩, ⟨by (with_reducible repeat (first | apply Kd.R_alloc | apply Kd.R_drewN | apply Kd.R_drew)); exact HO_3.out⟩, ⟨hbW HB⟩⟩
      case rest =>
       clear HC5
       try clear p1
       try clear q1
       try clear hx1
       try clear c2
       try clear c2b0
       try clear p2
       try clear q2
       try clear hx2
       try clear c3
       try clear c3b0
       try clear c4
       try clear c4b0
       try clear c6
       try clear c6b0
       try clear p6
       try clear c7
       try clear c7b0
       try clear c8
       try clear c8b0
       try clear hx1_0
       try clear hx2_0
       try clear p1
       try clear p2
       try clear q1
       try clear q2
       obtain ⟨kq, x6_4, rfl, HA, HJ4, HO_3, HB⟩ := hcut
       cases kq with
       | zero => exact absurd HA.out (by simp [q19z.j2])
       | succ kj4 =>
        have H := HA.out
        clear HA
        simp only [q19z.j2] at H
        have HC12 := Aside0.mk H
        clear H
        go_upto_region 8 with (fail)
        go_cut [39] (fun v39 wc => ∃ (kq : Nat) (x39_11 : Bool), v39 = .bool x39_11 ∧ Aside0 (q19z.j3 kq x3_1 (rd l0 x10_1) x6_4 l0 (l0.length : Int) x10_1 x39_11 = some r) ∧ Aside0 (kq ≤ kj4) ∧ Aside0 (Kd.R (Kd.int .u32) 22 wc w.heap.size (fun _ => True) u3 x3_1) ∧ Aside0 (Below w.heap.size w wc))
        case first =>
         have H := HC12.out
         clear HC12
         by_cases c13 : x6_4 < (x3_1.length : Int)
         ·
          rw [if_pos c13] at H
          have c13b0 : decide (x6_4 < (x3_1.length : Int)) = true := decide_eq_true c13
          clear c13
          (first | rw [c13b0] | (simp only [i64_w, i32_w, IntKind.wrap_u32]; rw [c13b0]) | skip)
          by_cases c14 : 0 ≤ x6_4
          ·
           rw [if_pos c14] at H
           have c14b0 : decide (0 ≤ x6_4) = true := decide_eq_true c14
           clear c14
           have H' := Aside0.mk H
           clear H
           obtain ⟨Ao15, co15, eo15⟩ := Kd.R_slice HO_3.out
           subst eo15
           have p3 : 0 ≤ (x6_4 : Int) := of_decide_eq_true (by first | (with_reducible assumption) | assumption)
           have q3 : x6_4 < (x3_1.length : Int) := of_decide_eq_true (by first | (with_reducible assumption) | assumption)
           obtain ⟨ad3, e3, hx3_0⟩ := Kd.at_int (Kd.R_reads' HO_3.out).2.2 x6_4 p3 q3
           cases e3
           replace p3 := eq_true p3
           replace q3 := eq_true q3
           go_wp2
           go_meet
           case rel => exact ⟨_, (((rd x3_1 x6_4) == (rd l0 x10_1))), (by first | rfl | (simp; done) | (simp [*]; done)), H', ⟨by have := HK1.out; have := HJ4.out; first | omega | exact Nat.le_refl _⟩, ⟨by (with_reducible repeat (first | apply Kd.R_alloc | apply Kd.R_drewN | apply Kd.R_drew)); exact HO_3.out⟩, ⟨hbW HB⟩⟩
          ·
           rw [if_neg c14] at H
           exact absurd H (by simp)
         ·
          rw [if_neg c13] at H
          have c13b0 : decide (x6_4 < (x3_1.length : Int)) = false := decide_eq_false c13
          clear c13
          (first | rw [c13b0] | (simp only [i64_w, i32_w, IntKind.wrap_u32]; rw [c13b0]) | skip)
          have H' := Aside0.mk H
          clear H
          obtain ⟨Ao16, co16, eo16⟩ := Kd.R_slice HO_3.out
          subst eo16
          go_wp2
          go_meet
          case rel => exact ⟨_, (false), (by first | rfl | (simp; done) | (simp [*]; done)), H', ⟨by have := HK1.out; have := HJ4.out; first | omega | exact Nat.le_refl _⟩, ⟨by (with_reducible repeat (first | apply Kd.R_alloc | apply Kd.R_drewN | apply Kd.R_drew)); exact HO_3.out⟩, ⟨hbW HB⟩⟩
        case rest =>
         clear HC12
         try clear c1
         try clear p1
         try clear q1
         try clear hx1
         try clear c2
         try clear c2b0
         try clear p2
         try clear q2
         try clear hx2
         try clear c3
         try clear c3b0
         try clear p3
         try clear q3
         try clear hx3
         try clear c4
         try clear c4b0
         try clear c6
         try clear c6b0
         try clear p6
         try clear c7
         try clear c7b0
         try clear c8
         try clear c8b0
         try clear c13
         try clear c13b0
         try clear c14
         try clear c14b0
         try clear hx1_0
         try clear hx2_0
         try clear hx3_0
         try clear p1
         try clear p2
         try clear p3
         try clear p6
         try clear q1
         try clear q2
         try clear q3
         obtain ⟨kq, x39_11, rfl, HA, HJ11, HO_3, HB⟩ := hcut
         cases kq with
         | zero => exact absurd HA.out (by simp [q19z.j3])
         | succ kj11 =>
          have H := HA.out
          clear HA
          simp only [q19z.j3] at H
          by_cases c17 : x39_11 = true
          ·
           subst c17
           have H1 : (q19z.l0 kj11 x3_1 l0 (l0.length : Int) (wrap64 (x10_1 + 1))) = some r := by rw [if_pos rfl] at H; exact H
           clear H
           have H := H1
           clear H1
           have H' := Aside0.mk H
           clear H
           go_wp2
           go_roundg kj11
           case measure => have := HK1.out; have := HJ4.out; have := HJ11.out; omega
           case rel => exact ⟨(x3_1), (wrap64 (x10_1 + 1)), (by first | rfl | (simp; done) | (simp [*]; done)), H', ⟨by have := HK1.out; have := HJ4.out; have := HJ11.out; omega⟩, ⟨by (with_reducible repeat (first | apply Kd.R_alloc | apply Kd.R_drewN | apply Kd.R_drew)); exact HO_3.out⟩, ⟨hbW HB⟩⟩
          ·
           replace c17 := Bool.eq_false_iff.mpr c17
           subst c17
           have H1 : (if x3_1.length < 35184372088832 then ((some (x3_1 ++ [0] : List Int)).bind fun y4 => (q19z.l2 kj11 y4 (rd l0 x10_1) x6_4 (wrap64 ((y4.length : Int) - 1)) l0 (l0.length : Int) x10_1)) else (none)) = some r := by rw [if_neg (show ¬ (false = true) by decide)] at H; exact H
           clear H
           have H := H1
           clear H1
           by_cases c18 : x3_1.length < 35184372088832
           ·
            rw [if_pos c18] at H
            have LMc18 := Aside0.mk c18
            clear c18
            obtain ⟨y4, hy4⟩ : ∃ y_ : List Int, y_ = (x3_1 ++ [0]) := ⟨_, rfl⟩
            replace H : (q19z.l2 kj11 y4 (rd l0 x10_1) x6_4 (wrap64 ((y4.length : Int) - 1)) l0 (l0.length : Int) x10_1) = some r := by first | (rw [hy4]; with_reducible exact H) | (have H2_ := (Option.bind_some _ _).symm.trans H; rw [hy4]; with_reducible exact H2_) | (have H2_ := (Option.bind_some _ _).symm.trans H; with_reducible exact H2_) | with_reducible exact H | (rw [hy4]; exact H) | exact H
            have Ny4 := Aside0.mk hy4
            clear hy4
            have H' := Aside0.mk H
            clear H
            go_wp2_with (first | ((with_reducible refine gate_builtin (b := .append) (xs := #[.tmp 40, .tmp 41]) rfl ?_); at_builtin; refine Kd.R_append (Kd.int .u32) (w0 := w) w.heap.size rfl (.tmp 40) (.tmp 41) 23 22 (.int .u32 0) 4 rfl Try.underlying23 info22 rfl (by decide) (by omega) u3 x3_1 0 [.int .u32 0] (fun _ => True) (fun _ => False) rfl rfl ?aP (fun _ hk => hk.elim) ?aF ?aO ?aB ?aS ?aL ?_; (case aP => exact rfl); (case aB => exact (hbW HB)); (case aF => exact (fun _ _ => trivial)); (case aO => exact (rW HO_3)); (case aS => exact (below_size (hbW HB))); (case aL => have := LMc18.out; omega); intro v5 w19 ho hb hg hat; rw [← Ny4.out] at ho; have n0_ := Aside0.mk (hb); have n1_ := Aside0.mk (ho); clear HB; clear HO_3; have HB := n0_; have HO6 := n1_; clear n0_ n1_; clear ho hb hg hat; obtain ⟨Ao20, co20, eo20⟩ := Kd.R_slice HO6.out; subst eo20))
            go_loopg [7] kj11 (fun kq v7 w' => ∃ (x3_4 : List Int) (x7_4 : Int), v7 = .int .i64 x7_4 ∧ Aside0 (q19z.l2 kq x3_4 (rd l0 x10_1) x6_4 x7_4 l0 (l0.length : Int) x10_1 = some r) ∧ Aside0 (kq ≤ kj11) ∧ Aside0 (Kd.R (Kd.int .u32) 22 w' w.heap.size (fun _ => True) (.slice Ao20 y4.length co20) x3_4) ∧ Aside0 (Below w.heap.size w w'))
            case atStart => exact ⟨(y4), (wrap64 ((y4.length : Int) - 1)), (by first | rfl | (simp; done) | (simp [*]; done)), H', ⟨Nat.le_refl _⟩, ⟨by (with_reducible repeat (first | apply Kd.R_alloc | apply Kd.R_drewN | apply Kd.R_drew)); exact HO6.out⟩, ⟨hbW HB⟩⟩
            case round =>
             clear H'
             try clear c1
             try clear p1
             try clear q1
             try clear hx1
             try clear c2
             try clear c2b0
             try clear p2
             try clear q2
             try clear hx2
             try clear c3
             try clear c3b0
             try clear p3
             try clear q3
             try clear hx3
             try clear c4
             try clear c4b0
             try clear c6
             try clear c6b0
             try clear p6
             try clear c7
             try clear c7b0
             try clear c8
             try clear c8b0
             try clear c13
             try clear c13b0
             try clear c14
             try clear c14b0
             try clear c17
             try clear c18
             try clear hx1_0
             try clear hx2_0
             try clear hx3_0
             try clear p1
             try clear p2
             try clear p3
             try clear p6
             try clear q1
             try clear q2
             try clear q3
             obtain ⟨x3_4, x7_4, rfl, HA, HK4, HO_3, HB⟩ := hrel
             have hl3_4 := (Kd.R_reads' HO_3.out).1
             rw [hl3_4] at HO_3
             (try simp only [hl3_4])
             cases gk with
             | zero => exact absurd HA.out (by simp [q19z.l2])
             | succ k4 =>
              have H := HA.out
              clear HA
              simp only [q19z.l2] at H
              by_cases c21 : x7_4 > x6_4
              ·
               rw [if_pos c21] at H
               have c21b0 : decide (x6_4 < x7_4) = true := decide_eq_true c21
               clear c21
               obtain ⟨ji22, hji22⟩ : ∃ j_ : Int, (wrap64 (x7_4 - 1)) = j_ := ⟨_, rfl⟩
               replace H : (if 0 ≤ (ji22) then (if (ji22) < (x3_4.length : Int) then (if 0 ≤ x7_4 then (if x7_4 < (x3_4.length : Int) then (q19z.l2 k4 (x3_4.set (x7_4 : Int).toNat (rd x3_4 (ji22))) (rd l0 x10_1) x6_4 ji22 l0 (l0.length : Int) x10_1) else (none)) else (none)) else (none)) else (none)) = some r := by first | (rw [hji22] at H; exact H) | (simp only [hji22] at H ⊢; exact H)
               have hji22w : (IntKind.i64.wrap (x7_4 - 1)) = ji22 := (i64_w _).trans hji22
               by_cases c23 : 0 ≤ (ji22)
               ·
                rw [if_pos c23] at H
                have c23b0 : decide (0 ≤ (ji22)) = true := decide_eq_true c23
                clear c23
                by_cases c24 : (ji22) < (x3_4.length : Int)
                ·
                 rw [if_pos c24] at H
                 have c24b0 : decide ((ji22) < (x3_4.length : Int)) = true := decide_eq_true c24
                 clear c24
                 by_cases c25 : 0 ≤ x7_4
                 ·
                  rw [if_pos c25] at H
                  have c25b0 : decide (0 ≤ x7_4) = true := decide_eq_true c25
                  clear c25
                  by_cases c26 : x7_4 < (x3_4.length : Int)
                  ·
                   rw [if_pos c26] at H
                   have c26b0 : decide (x7_4 < (x3_4.length : Int)) = true := decide_eq_true c26
                   clear c26
                   obtain ⟨y8, hy8⟩ : ∃ y_ : List Int, y_ = (x3_4.set (x7_4 : Int).toNat (rd x3_4 (ji22))) := ⟨_, rfl⟩
                   replace H : (q19z.l2 k4 y8 (rd l0 x10_1) x6_4 ji22 l0 (l0.length : Int) x10_1) = some r := by first | (rw [hy8]; with_reducible exact H) | (have H2_ := (Option.bind_some _ _).symm.trans H; rw [hy8]; with_reducible exact H2_) | (have H2_ := (Option.bind_some _ _).symm.trans H; with_reducible exact H2_) | with_reducible exact H | (rw [hy8]; exact H) | exact H
                   have Ny8 := Aside0.mk hy8
                   clear hy8
                   have H' := Aside0.mk H
                   clear H
                   have p7 : 0 ≤ ((ji22) : Int) := of_decide_eq_true (by first | (with_reducible assumption) | assumption)
                   have q7 : (ji22) < (x3_4.length : Int) := of_decide_eq_true (by first | (with_reducible assumption) | assumption)
                   obtain ⟨ad7, e7, hx7_0⟩ := Kd.at_int (Kd.R_reads' HO_3.out).2.2 (ji22) p7 q7
                   cases e7
                   replace p7 := eq_true p7
                   replace q7 := eq_true q7
                   have p27 : 0 ≤ (x7_4 : Int) := of_decide_eq_true (by first | (with_reducible assumption) | assumption)
                   have q27 : (x7_4 : Int) < ((x3_4.length : Int) : Int) := of_decide_eq_true (by first | (with_reducible assumption) | assumption)
                   obtain ⟨go27, co27, eo27, gb27, gl27, cl27, HG27⟩ := Kd.R_form HO_3.out (by omega)
                   (first | cases eo27 | (injection eo27 with ea_ en_ ec_; (first | subst ea_ | (injection ea_ with ea_; subst ea_)); subst ec_; clear en_))
                   have GB27 := Aside0.mk gb27
                   have GG27 := Aside0.mk HG27
                   clear gb27 gl27 HG27
                   (first | simp only [add_plain] at hx7_0 | skip)
                   obtain ⟨hx27_0, hf27_0⟩ := Kd.R_celln 0 HO_3.out (x7_4 : Int) p27 q27
                   replace p27 := eq_true p27
                   replace q27 := eq_true q27
                   have HP28 := Kd.R_putg HO_3.out (x7_4 : Int) (rd x3_4 (ji22))
                   go_wp2_with (first | ((with_reducible refine gate_store (t := 22) (p := 58) rfl ?_); refine store_event (t := 22) (p := 58) (v := ?vo_w29) (w1 := (wr.setCell ⟨go27, (x7_4 : Int).toNat, none⟩ (.int .u32 (rd x3_4 (ji22))))) ?hg ?ho ?hn ?hr ?_; (case ho => rfl); (case hg => rfl); (case hn => rfl); (case hr => first | (go_simp; done) | (go_simp; rfl)); intro w29 hw; have hg : wr.grownBy w29 (some go27) := (by rw [hw]; exact HP28.2); have hp_ : Kd.R (Kd.int .u32) 22 w29 w.heap.size (fun _ => True) (.slice (some ⟨go27, 0, none⟩) x3_4.length co20) y8 := (by rw [hw, Ny8.out]; exact HP28.1); clear HP28; have n0_ := Aside0.mk (hp_); have n1_ := Aside0.mk ((by rw [hw]; exact below_set (HB.out) GB27.out : Below w.heap.size w w29)); clear HO_3; clear HB; have HO_3 := n0_; have HB := n1_; clear n0_ n1_; clear hg hw hp_))
                   (try simp only [← hl3_4])
                   go_roundg k4
                   case measure => have := HK1.out; have := HJ4.out; have := HJ11.out; have := HK4.out; omega
                   case rel => exact ⟨(y8), (ji22), (by first | rfl | (simp; done) | (simp only [← hji22] <;> (first | rfl | simp)) | (simp [*]; done)), H', ⟨by have := HK1.out; have := HJ4.out; have := HJ11.out; have := HK4.out; omega⟩, ⟨by (try simp only [hl3_4]); (with_reducible repeat (first | apply Kd.R_alloc | apply Kd.R_drewN | apply Kd.R_drew)); exact HO_3.out⟩, ⟨hbW HB⟩⟩
                  ·
                   rw [if_neg c26] at H
                   exact absurd H (by simp)
                 ·
                  rw [if_neg c25] at H
                  exact absurd H (by simp)
                ·
                 rw [if_neg c24] at H
                 exact absurd H (by simp)
               ·
                rw [if_neg c23] at H
                exact absurd H (by simp)
              ·
               rw [if_neg c21] at H
               have c21b0 : decide (x6_4 < x7_4) = false := decide_eq_false c21
               clear c21
               by_cases c30 : 0 ≤ x6_4
               ·
                rw [if_pos c30] at H
                have c30b0 : decide (0 ≤ x6_4) = true := decide_eq_true c30
                clear c30
                by_cases c31 : x6_4 < (x3_4.length : Int)
                ·
                 rw [if_pos c31] at H
                 have c31b0 : decide (x6_4 < (x3_4.length : Int)) = true := decide_eq_true c31
                 clear c31
                 obtain ⟨y9, hy9⟩ : ∃ y_ : List Int, y_ = (x3_4.set (x6_4 : Int).toNat (rd l0 x10_1)) := ⟨_, rfl⟩
                 replace H : (q19z.l0 k4 y9 l0 (l0.length : Int) (wrap64 (x10_1 + 1))) = some r := by first | (rw [hy9]; with_reducible exact H) | (have H2_ := (Option.bind_some _ _).symm.trans H; rw [hy9]; with_reducible exact H2_) | (have H2_ := (Option.bind_some _ _).symm.trans H; with_reducible exact H2_) | with_reducible exact H | (rw [hy9]; exact H) | exact H
                 have Ny9 := Aside0.mk hy9
                 clear hy9
                 have H' := Aside0.mk H
                 clear H
                 have p32 : 0 ≤ (x6_4 : Int) := of_decide_eq_true (by first | (with_reducible assumption) | assumption)
                 have q32 : (x6_4 : Int) < ((x3_4.length : Int) : Int) := of_decide_eq_true (by first | (with_reducible assumption) | assumption)
                 obtain ⟨go32, co32, eo32, gb32, gl32, cl32, HG32⟩ := Kd.R_form HO_3.out (by omega)
                 (first | cases eo32 | (injection eo32 with ea_ en_ ec_; (first | subst ea_ | (injection ea_ with ea_; subst ea_)); subst ec_; clear en_))
                 have GB32 := Aside0.mk gb32
                 have GG32 := Aside0.mk HG32
                 clear gb32 gl32 HG32
                 obtain ⟨hx32_0, hf32_0⟩ := Kd.R_celln 0 HO_3.out (x6_4 : Int) p32 q32
                 replace p32 := eq_true p32
                 replace q32 := eq_true q32
                 have HP33 := Kd.R_putg HO_3.out (x6_4 : Int) (rd l0 x10_1)
                 go_wp2_with (first | ((with_reducible refine gate_store (t := 22) (p := 62) rfl ?_); refine store_event (t := 22) (p := 62) (v := ?vo_w34) (w1 := (wr.setCell ⟨go32, (x6_4 : Int).toNat, none⟩ (.int .u32 (rd l0 x10_1)))) ?hg ?ho ?hn ?hr ?_; (case ho => rfl); (case hg => rfl); (case hn => rfl); (case hr => first | (go_simp; done) | (go_simp; rfl)); intro w34 hw; have hg : wr.grownBy w34 (some go32) := (by rw [hw]; exact HP33.2); have hp_ : Kd.R (Kd.int .u32) 22 w34 w.heap.size (fun _ => True) (.slice (some ⟨go32, 0, none⟩) x3_4.length co20) y9 := (by rw [hw, Ny9.out]; exact HP33.1); clear HP33; have n0_ := Aside0.mk (hp_); have n1_ := Aside0.mk ((by rw [hw]; exact below_set (HB.out) GB32.out : Below w.heap.size w w34)); clear HO_3; clear HB; have HO_3 := n0_; have HB := n1_; clear n0_ n1_; clear hg hw hp_))
                 (try simp only [← hl3_4])
                 go_roundg k4
                 case measure => have := HK1.out; have := HJ4.out; have := HJ11.out; have := HK4.out; omega
                 case rel => exact ⟨(y9), (wrap64 (x10_1 + 1)), (by first | rfl | (simp; done) | (simp [*]; done)), H', ⟨by have := HK1.out; have := HJ4.out; have := HJ11.out; have := HK4.out; omega⟩, ⟨by (try simp only [hl3_4]); (with_reducible repeat (first | apply Kd.R_alloc | apply Kd.R_drewN | apply Kd.R_drew)); exact HO_3.out⟩, ⟨hbW HB⟩⟩
                ·
                 rw [if_neg c31] at H
                 exact absurd H (by simp)
               ·
                rw [if_neg c30] at H
                exact absurd H (by simp)
           ·
            rw [if_neg c18] at H
            exact absurd H (by simp)
     ·
      rw [if_neg c4] at H
      exact absurd H (by simp)
    ·
     rw [if_neg c3] at H
     exact absurd H (by simp)
   ·
    rw [if_neg c2] at H
    have c2b0 : decide (x10_1 < (l0.length : Int)) = false := decide_eq_false c2
    clear c2
    obtain rfl := Option.some.inj H
    go_wp2
    go_ret
    exact ⟨_, by first | rfl | (simp [errW_none, errW_some] <;> rfl) | (simp [*, errW_none, errW_some] <;> rfl), by (with_reducible repeat (first | apply Kd.R_alloc | apply Kd.R_drewN | apply Kd.R_drew)); exact HO_3.out, hbW HB⟩

end Go.Proofs.Ytgelpccjdndfoaa.P
