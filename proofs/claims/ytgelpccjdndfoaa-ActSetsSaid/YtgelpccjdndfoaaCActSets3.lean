/- Part of the proof of the law ActSets: the functions that it reaches, by contract. -/
import Derived.Test.YtgelpccjdndfoaaCActSets0
import Derived.Test.YtgelpccjdndfoaaCActSets1
import Derived.Test.YtgelpccjdndfoaaCActSets2
set_option linter.unusedVariables false
set_option linter.unusedSimpArgs false
namespace Go.Proofs.Ytgelpccjdndfoaa.P
open Go.RowKit Go.Proofs.YtgelpccjdndfoaaW.PrintWords Go.Proofs.YtgelpccjdndfoaaW.PrintLast Go.Proofs.YtgelpccjdndfoaaW.PrintMore
attribute [local go_sem] max2_int min2_int max_two min_two max_three min_three max_four min_four
/-! ### act_All: function 22 -/
def q18z.l0 : Nat → List (S26) → Int → Int → Int → Int → List Int → List Int → Int → Int → Int → Int → Option (Int × Int × List Int × List Int × Int × Int × Int × Int)
 | 0, _, _, _, _, _, _, _, _, _, _, _ => none
 | k + 1, x9, x10, x11, x2000, x2001, x2002, x2003, x2004, x2005, x2006, x2007 => if x11 < x10 then (if 0 ≤ x11 then (if x11 < (x9.length : Int) then ((q8z.f k ((rd_T26 x9 x11).f0) ((rd_T26 x9 x11).f1) ((rd_T26 x9 x11).f2) ((rd_T26 x9 x11).f3) x2000 x2001 x2002 x2003 x2004 x2005 x2006 x2007).bind fun bt17 => (q18z.l0 k x9 x10 (wrap64 (x11 + 1)) bt17.1 bt17.2.1 bt17.2.2.1 bt17.2.2.2.1 bt17.2.2.2.2.1 bt17.2.2.2.2.2.1 bt17.2.2.2.2.2.2.1 bt17.2.2.2.2.2.2.2)) else (none)) else (none)) else (some (x2000, x2001, x2002, x2003, x2004, x2005, x2006, x2007))
def q18z.f (k : Nat) (l0 : List (S26)) (a1_0 : Int) (a1_1 : Int) (l1_2 : List Int) (l1_3 : List Int) (a1_4 : Int) (a1_5 : Int) (a1_6 : Int) (a1_7 : Int) : Option (Int × Int × List Int × List Int × Int × Int × Int × Int) := (q5z.f a1_0 a1_1 l1_2 l1_3 a1_4 a1_5 a1_6 a1_7).bind fun bt3 => (q18z.l0 k l0 (l0.length : Int) 0 bt3.1 bt3.2.1 bt3.2.2.1 bt3.2.2.2.1 bt3.2.2.2.2.1 bt3.2.2.2.2.2.1 bt3.2.2.2.2.2.2.1 bt3.2.2.2.2.2.2.2)
theorem q18z.mono_l : ∀ k, (∀ y0 y1 y2 y3 y4 y5 y6 y7 y8 y9 y10, LeO (q18z.l0 k y0 y1 y2 y3 y4 y5 y6 y7 y8 y9 y10) (q18z.l0 (k + 1) y0 y1 y2 y3 y4 y5 y6 y7 y8 y9 y10))
 | 0 => fun _ _ _ _ _ _ _ _ _ _ _ r h => by simp [q18z.l0] at h
 | k + 1 => by
  have ih0 := q18z.mono_l k
  ·
   intro y0 y1 y2 y3 y4 y5 y6 y7 y8 y9 y10
   unfold q18z.l0
   repeat' first
   | (with_reducible exact ih0 _ _ _ _ _ _ _ _ _ _ _)
   | (with_reducible exact q8z.mono _ _ _ _ _ _ _ _ _ _ _ _ _)
   | (with_reducible exact LeO.refl _)
   | (with_reducible exact LeO.none _)
   | (with_reducible refine LeO.ite ?_ ?_)
   | (with_reducible refine LeO.bind ?_ (fun _ => ?_))
   | exact ih0 _ _ _ _ _ _ _ _ _ _ _
   | exact q8z.mono _ _ _ _ _ _ _ _ _ _ _ _ _
   | exact LeO.none _
   | refine LeO.ite ?_ ?_
   | refine LeO.bind ?_ (fun _ => ?_)
theorem q18z.mono : ∀ a0 a1 a2 a3 a4 a5 a6 a7 a8 k, LeO (q18z.f k a0 a1 a2 a3 a4 a5 a6 a7 a8) (q18z.f (k + 1) a0 a1 a2 a3 a4 a5 a6 a7 a8) := by
 intro a0 a1 a2 a3 a4 a5 a6 a7 a8 k
 have ih0 := q18z.mono_l k
 unfold q18z.f
 repeat' first
   | (with_reducible exact ih0 _ _ _ _ _ _ _ _ _ _ _)
   | (with_reducible exact q8z.mono _ _ _ _ _ _ _ _ _ _ _ _ _)
   | (with_reducible exact LeO.refl _)
   | (with_reducible exact LeO.none _)
   | (with_reducible refine LeO.ite ?_ ?_)
   | (with_reducible refine LeO.bind ?_ (fun _ => ?_))
   | exact ih0 _ _ _ _ _ _ _ _ _ _ _
   | exact q8z.mono _ _ _ _ _ _ _ _ _ _ _ _ _
   | exact LeO.none _
   | refine LeO.ite ?_ ?_
   | refine LeO.bind ?_ (fun _ => ?_)
set_option maxHeartbeats 8000000 in
set_option maxRecDepth 100000 in
theorem q18z.calls (k : Nat) (A0 : Option Addr) (c0 : Nat) (l0 : List (S26)) (a1_0 : Int) (a1_1 : Int) (A1_2 : Option Addr) (c1_2 : Nat) (l1_2 : List Int) (A1_3 : Option Addr) (c1_3 : Nat) (l1_3 : List Int) (a1_4 : Int) (a1_5 : Int) (a1_6 : Int) (a1_7 : Int) (r1 : Int) (r2 : Int) (r3 : List Int) (r4 : List Int) (r5 : Int) (r6 : Int) (r7 : Int) (r8 : Int) (w : World) (hr0 : Kd.C k26 w A0 l0.length l0) (hc0 : l0.length ≤ c0) (hr1_2 : Kd.C (Kd.int .u32) w A1_2 l1_2.length l1_2) (hc1_2 : l1_2.length ≤ c1_2) (hr1_3 : Kd.C (Kd.int .u32) w A1_3 l1_3.length l1_3) (hc1_3 : l1_3.length ≤ c1_3) (h : q18z.f k l0 a1_0 a1_1 l1_2 l1_3 a1_4 a1_5 a1_6 a1_7 = some (r1, r2, r3, r4, r5, r6, r7, r8)) :
  Calls Try.prog 22 #[.slice A0 l0.length c0, .agg #[.int .u32 a1_0, .int .i64 a1_1, .slice A1_2 l1_2.length c1_2, .slice A1_3 l1_3.length c1_3, .int .u32 a1_4, .int .u32 a1_5, .int .i64 a1_6, .int .u32 a1_7]] w fun e w' => ∃ v2_ v3_ : Value, e = .returned (.agg #[.int .u32 r1, .int .i64 r2, v2_, v3_, .int .u32 r5, .int .u32 r6, .int .i64 r7, .int .u32 r8]) ∧ Kd.R (Kd.int .u32) 22 w' w.heap.size (fun k_ => some k_ ≠ (v3_ : Value).ownBlock) v2_ r3 ∧ Kd.R (Kd.int .u32) 22 w' w.heap.size (fun k_ => some k_ ≠ (v2_ : Value).ownBlock) v3_ r4 ∧ Below w.heap.size w w' := by
 have hu30 := Try.underlying30
 have hu26 := Try.underlying26
 have HR0 := Aside0.mk hr0
 have HC0 := Aside0.mk hc0
 clear hr0 hc0
 have HR1_2 := Aside0.mk hr1_2
 have HC1_2 := Aside0.mk hc1_2
 clear hr1_2 hc1_2
 have HR1_3 := Aside0.mk hr1_3
 have HC1_3 := Aside0.mk hc1_3
 clear hr1_3 hc1_3
 have HB := Aside0.mk (Below.refl w.heap.size w)
 have H : ((q5z.f a1_0 a1_1 l1_2 l1_3 a1_4 a1_5 a1_6 a1_7).bind fun bt3 => (q18z.l0 k l0 (l0.length : Int) 0 bt3.1 bt3.2.1 bt3.2.2.1 bt3.2.2.2.1 bt3.2.2.2.2.1 bt3.2.2.2.2.2.1 bt3.2.2.2.2.2.2.1 bt3.2.2.2.2.2.2.2)) = some (r1, r2, r3, r4, r5, r6, r7, r8) := h
 clear h
 replace H := Option.bind_eq_some_iff.mp H
 obtain ⟨⟨t3, t4, t5, t8, t11, t12, t13, t14⟩, A30, H⟩ := H
 replace H : (q18z.l0 k l0 (l0.length : Int) 0 t3 t4 t5 t8 t11 t12 t13 t14) = some (r1, r2, r3, r4, r5, r6, r7, r8) := H
 have A3 := Aside0.mk A30
 clear A30
 have H' := Aside0.mk H
 clear H
 go_enter Try.func22, Try.ntmps22
 go_wp2_with (first | ((with_reducible refine gate_dst (N := 3) rfl ?_); refine box_event ?hg (N := 3) ?hd (cs := #[.int .u32 a1_0, .int .i64 a1_1, .slice A1_2 l1_2.length c1_2, .slice A1_3 l1_3.length c1_3, .int .u32 a1_4, .int .u32 a1_5, .int .i64 a1_6, .int .u32 a1_7]) (t := 30) ?hr ?_; (case hd => rfl); (case hg => rfl); (case hr => first | (go_simp; done) | (go_simp; rfl)); intro gb1 hg w4 hbox hb; have BK1 := Aside0.mk (hbox); have GW1 := gwS hg HB; have GE1 := gwS hg HB; replace HB := hbS HB hb; clear hb hbox hg) | ((with_reducible refine gate_dst (N := 4) rfl ?_); refine box_event ?hg (N := 4) ?hd (cs := #[.int .u32 0, .int .i64 0, .slice none 0 0, .slice none 0 0, .int .u32 0, .int .u32 0, .int .i64 0, .int .u32 0]) (t := 30) ?hr ?_; (case hd => rfl); (case hg => rfl); (case hr => first | (go_simp; done) | (go_simp; rfl)); intro gb2 hg w5 hbox hb; have BK2 := Aside0.mk (hbox); have GW2 := gwS hg HB; have GE2 := gwS hg HB; have NB1_2 := nbL hg BK1; have NB2_1 := nbG hg BK1; replace BK1 := bkB BK1 hb; replace HB := hbS HB hb; clear hb hbox hg; have hnb6 := NB1_2.out; have hnc6 := NB2_1.out; obtain ⟨hcz7_0, hcz7_1, hcz7_2, hcz7_3, hcz7_4, hcz7_5, hcz7_6, hcz7_7, hfz7_0, hfz7_1, hfz7_2, hfz7_3, hfz7_4, hfz7_5, hfz7_6, hfz7_7⟩ := bc8 BK1) | ((with_reducible refine gate_callee (f := 26) rfl ?_); refine goesL_ (some 8) rfl rfl Try.func26 (by kernel_rfl) rfl #[.agg #[.int .u32 a1_0, .int .i64 a1_1, .slice A1_2 l1_2.length c1_2, .slice A1_3 l1_3.length c1_3, .int .u32 a1_4, .int .u32 a1_5, .int .i64 a1_6, .int .u32 a1_7]] rfl (by (try simp only [List.map_toArray, List.map_cons, List.map_nil]); first | done | rfl | (simp only [List.length_drop, List.length_take]; rfl)) ?_; (with_reducible refine (q5z.calls a1_0 a1_1 _ _ l1_2 _ _ l1_3 a1_4 a1_5 a1_6 a1_7 t3 t4 t5 t8 t11 t12 t13 t14 _ ?side1 ?side2 ?side3 ?side4 A3.out).mono ?_); (case side1 => repeat (first | exact (Kd.C_below HR1_2.out HB.out) | (with_reducible refine Kd.C_alloc ?_ _) | (with_reducible refine Kd.C_drewN ?_ _) | (with_reducible refine Kd.C_drew ?_))); (case side2 => exact HC1_2.out); (case side3 => repeat (first | exact (Kd.C_below HR1_3.out HB.out) | (with_reducible refine Kd.C_alloc ?_ _) | (with_reducible refine Kd.C_drewN ?_ _) | (with_reducible refine Kd.C_drew ?_))); (case side4 => exact HC1_3.out); rintro e w8 ⟨v6, v9, rfl, ho0, ho1, hb⟩; refine ⟨_, rfl, ?_⟩; have HO7 := Aside0.mk (Kd.R_lower ho0 (below_size (hbW HB))); have HO10 := Aside0.mk (Kd.R_lower ho1 (below_size (hbW HB))); replace BK1 := bkB BK1 hb; replace BK2 := bkB BK2 hb; replace HB := hbS HB hb; (try clear hb); (try clear ho0); (try clear ho1); obtain ⟨hcz9_0, hcz9_1, hcz9_2, hcz9_3, hcz9_4, hcz9_5, hcz9_6, hcz9_7, hfz9_0, hfz9_1, hfz9_2, hfz9_3, hfz9_4, hfz9_5, hfz9_6, hfz9_7⟩ := bc8 BK1; obtain ⟨Ao10, co10, eo10⟩ := Kd.R_slice HO7.out; subst eo10; obtain ⟨Ao11, co11, eo11⟩ := Kd.R_slice HO10.out; subst eo11))
 go_loopg [11] k (fun kq v11 w' => ∃ (x11_1 : Int) (x2000_1 : Int) (x2001_1 : Int) (x2002_1 : List Int) (x2003_1 : List Int) (x2004_1 : Int) (x2005_1 : Int) (x2006_1 : Int) (x2007_1 : Int) (u2002 : Value) (u2003 : Value), v11 = .int .i64 x11_1 ∧ Aside0 (q18z.l0 kq l0 (l0.length : Int) x11_1 x2000_1 x2001_1 x2002_1 x2003_1 x2004_1 x2005_1 x2006_1 x2007_1 = some (r1, r2, r3, r4, r5, r6, r7, r8)) ∧ Aside0 (kq ≤ k) ∧ Aside0 (Kd.R (Kd.int .u32) 22 w' w.heap.size (fun k_ => some k_ ≠ (u2003 : Value).ownBlock) u2002 x2002_1) ∧ Aside0 (Kd.R (Kd.int .u32) 22 w' w.heap.size (fun k_ => some k_ ≠ (u2002 : Value).ownBlock) u2003 x2003_1) ∧ Aside0 (w'.heap[gb1]? = some (.cells #[.int .u32 x2000_1, .int .i64 x2001_1, u2002, u2003, .int .u32 x2004_1, .int .u32 x2005_1, .int .i64 x2006_1, .int .u32 x2007_1] 30 (0, 0))) ∧ Aside0 (w'.heap[gb2]? = some (.cells #[.int .u32 0, .int .i64 0, (.slice none 0 0), (.slice none 0 0), .int .u32 0, .int .u32 0, .int .i64 0, .int .u32 0] 30 (0, 0))) ∧ Aside0 (Below w.heap.size w w'))
 case atStart => exact ⟨(0), (t3), (t4), (t5), (t8), (t11), (t12), (t13), (t14), (.slice Ao10 t5.length co10), (.slice Ao11 t8.length co11), (by first | rfl | (simp; done) | (simp [*]; done)), H', ⟨Nat.le_refl _⟩, ⟨moR (rW HO7)⟩, ⟨moR (rW HO10)⟩, ⟨by (with_reducible repeat (first | refine blk_drewN ?_ _ | refine blk_drew ?_ | refine blk_alloc ?_ _)); refine blk_put (cs := #[.int .u32 t3, .int .i64 t4, .slice Ao10 t5.length co10, .slice Ao11 t8.length co11, .int .u32 t11, .int .u32 t12, .int .i64 t13, .int .u32 a1_7]) ?_ 7 _ rfl; (with_reducible repeat (first | refine blk_drewN ?_ _ | refine blk_drew ?_ | refine blk_alloc ?_ _)); refine blk_put (cs := #[.int .u32 t3, .int .i64 t4, .slice Ao10 t5.length co10, .slice Ao11 t8.length co11, .int .u32 t11, .int .u32 t12, .int .i64 a1_6, .int .u32 a1_7]) ?_ 6 _ rfl; (with_reducible repeat (first | refine blk_drewN ?_ _ | refine blk_drew ?_ | refine blk_alloc ?_ _)); refine blk_put (cs := #[.int .u32 t3, .int .i64 t4, .slice Ao10 t5.length co10, .slice Ao11 t8.length co11, .int .u32 t11, .int .u32 a1_5, .int .i64 a1_6, .int .u32 a1_7]) ?_ 5 _ rfl; (with_reducible repeat (first | refine blk_drewN ?_ _ | refine blk_drew ?_ | refine blk_alloc ?_ _)); refine blk_put (cs := #[.int .u32 t3, .int .i64 t4, .slice Ao10 t5.length co10, .slice Ao11 t8.length co11, .int .u32 a1_4, .int .u32 a1_5, .int .i64 a1_6, .int .u32 a1_7]) ?_ 4 _ rfl; (with_reducible repeat (first | refine blk_drewN ?_ _ | refine blk_drew ?_ | refine blk_alloc ?_ _)); refine blk_put (cs := #[.int .u32 t3, .int .i64 t4, .slice Ao10 t5.length co10, .slice A1_3 l1_3.length c1_3, .int .u32 a1_4, .int .u32 a1_5, .int .i64 a1_6, .int .u32 a1_7]) ?_ 3 _ rfl; (with_reducible repeat (first | refine blk_drewN ?_ _ | refine blk_drew ?_ | refine blk_alloc ?_ _)); refine blk_put (cs := #[.int .u32 t3, .int .i64 t4, .slice A1_2 l1_2.length c1_2, .slice A1_3 l1_3.length c1_3, .int .u32 a1_4, .int .u32 a1_5, .int .i64 a1_6, .int .u32 a1_7]) ?_ 2 _ rfl; (with_reducible repeat (first | refine blk_drewN ?_ _ | refine blk_drew ?_ | refine blk_alloc ?_ _)); refine blk_put (cs := #[.int .u32 t3, .int .i64 a1_1, .slice A1_2 l1_2.length c1_2, .slice A1_3 l1_3.length c1_3, .int .u32 a1_4, .int .u32 a1_5, .int .i64 a1_6, .int .u32 a1_7]) ?_ 1 _ rfl; (with_reducible repeat (first | refine blk_drewN ?_ _ | refine blk_drew ?_ | refine blk_alloc ?_ _)); refine blk_put (cs := #[.int .u32 a1_0, .int .i64 a1_1, .slice A1_2 l1_2.length c1_2, .slice A1_3 l1_3.length c1_3, .int .u32 a1_4, .int .u32 a1_5, .int .i64 a1_6, .int .u32 a1_7]) ?_ 0 _ rfl; (with_reducible repeat (first | refine blk_drewN ?_ _ | refine blk_drew ?_ | refine blk_alloc ?_ _)); exact BK1.out⟩, ⟨by (with_reducible repeat (first | refine blk_drewN ?_ _ | refine blk_drew ?_ | refine blk_alloc ?_ _)); refine blk_far ?_ NB2_1.out _; (with_reducible repeat (first | refine blk_drewN ?_ _ | refine blk_drew ?_ | refine blk_alloc ?_ _)); refine blk_far ?_ NB2_1.out _; (with_reducible repeat (first | refine blk_drewN ?_ _ | refine blk_drew ?_ | refine blk_alloc ?_ _)); refine blk_far ?_ NB2_1.out _; (with_reducible repeat (first | refine blk_drewN ?_ _ | refine blk_drew ?_ | refine blk_alloc ?_ _)); refine blk_far ?_ NB2_1.out _; (with_reducible repeat (first | refine blk_drewN ?_ _ | refine blk_drew ?_ | refine blk_alloc ?_ _)); refine blk_far ?_ NB2_1.out _; (with_reducible repeat (first | refine blk_drewN ?_ _ | refine blk_drew ?_ | refine blk_alloc ?_ _)); refine blk_far ?_ NB2_1.out _; (with_reducible repeat (first | refine blk_drewN ?_ _ | refine blk_drew ?_ | refine blk_alloc ?_ _)); refine blk_far ?_ NB2_1.out _; (with_reducible repeat (first | refine blk_drewN ?_ _ | refine blk_drew ?_ | refine blk_alloc ?_ _)); refine blk_far ?_ NB2_1.out _; (with_reducible repeat (first | refine blk_drewN ?_ _ | refine blk_drew ?_ | refine blk_alloc ?_ _)); exact BK2.out⟩, ⟨hbW HB⟩⟩
 case round =>
  clear H'
  try clear c1
  try clear c2
  try clear p2
  try clear c6
  try clear hcz7_0 hcz7_1 hcz7_2 hcz7_3 hcz7_4 hcz7_5 hcz7_6 hcz7_7
  try clear hcz9_0 hcz9_1 hcz9_2 hcz9_3 hcz9_4 hcz9_5 hcz9_6 hcz9_7
  try clear hfz7_0 hfz7_1 hfz7_2 hfz7_3 hfz7_4 hfz7_5 hfz7_6 hfz7_7
  try clear hfz9_0 hfz9_1 hfz9_2 hfz9_3 hfz9_4 hfz9_5 hfz9_6 hfz9_7
  obtain ⟨x11_1, x2000_1, x2001_1, x2002_1, x2003_1, x2004_1, x2005_1, x2006_1, x2007_1, u2002, u2003, rfl, HA, HK1, HO_2002, HO_2003, BK1, BK2, HB⟩ := hrel
  cases gk with
  | zero => exact absurd HA.out (by simp [q18z.l0])
  | succ k1 =>
   have H := HA.out
   clear HA
   simp only [q18z.l0] at H
   by_cases c12 : x11_1 < (l0.length : Int)
   ·
    rw [if_pos c12] at H
    have c12b0 : decide (x11_1 < (l0.length : Int)) = true := decide_eq_true c12
    clear c12
    by_cases c13 : 0 ≤ x11_1
    ·
     rw [if_pos c13] at H
     have c13b0 : decide (0 ≤ x11_1) = true := decide_eq_true c13
     clear c13
     by_cases c14 : x11_1 < (l0.length : Int)
     ·
      rw [if_pos c14] at H
      have c14b0 : decide (x11_1 < (l0.length : Int)) = true := decide_eq_true c14
      clear c14
      replace H := Option.bind_eq_some_iff.mp H
      obtain ⟨⟨t17, t18, t19, t22, t25, t26, t27, t28⟩, A150, H⟩ := H
      replace H : (q18z.l0 k1 l0 (l0.length : Int) (wrap64 (x11_1 + 1)) t17 t18 t19 t22 t25 t26 t27 t28) = some (r1, r2, r3, r4, r5, r6, r7, r8) := H
      have A15 := Aside0.mk A150
      clear A150
      have H' := Aside0.mk H
      clear H
      have p15 : 0 ≤ (x11_1 : Int) := of_decide_eq_true (by first | (with_reducible assumption) | assumption)
      have q15 : x11_1 < (l0.length : Int) := of_decide_eq_true (by first | (with_reducible assumption) | assumption)
      obtain ⟨ad15, A15_2, c15_2, A15_3, c15_3, e15, hx15_0, hx15_1, hx15_2, hx15_3, hl15_2, hi15_2, hl15_3, hi15_3⟩ := at_T26 HR0.out x11_1 p15 q15
      cases e15
      replace hx15_0 := (HB.out.cell (World.block_lt_of_cell? w _ hx15_0)).trans hx15_0
      replace hx15_1 := (HB.out.cell (World.block_lt_of_cell? w _ hx15_1)).trans hx15_1
      replace hx15_2 := (HB.out.cell (World.block_lt_of_cell? w _ hx15_2)).trans hx15_2
      replace hx15_3 := (HB.out.cell (World.block_lt_of_cell? w _ hx15_3)).trans hx15_3
      have HR15_2 := Aside0.mk hi15_2
      have HC15_2 := Aside0.mk hl15_2
      clear hi15_2 hl15_2
      have HR15_3 := Aside0.mk hi15_3
      have HC15_3 := Aside0.mk hl15_3
      clear hi15_3 hl15_3
      replace p15 := eq_true p15
      replace q15 := eq_true q15
      go_wp2_with (first | ((with_reducible refine gate_dst (N := 6) rfl ?_); refine box_event ?hg (N := 6) ?hd (cs := #[.int .i64 0, .int .u32 0, .slice none 0 0, .slice none 0 0]) (t := 26) ?hr ?_; (case hd => rfl); (case hg => rfl); (case hr => first | (go_simp; done) | (go_simp; rfl)); intro gb16 hg w16 hbox hb; have BK16 := Aside0.mk (hbox); have GW16 := gwS hg HB; have GE16 := gwS hg HB; have NB1_16 := nbL hg BK1; have NB16_1 := nbG hg BK1; have NB2_16 := nbL hg BK2; have NB16_2 := nbG hg BK2; replace HO_2002 := Aside0.mk (Kd.R_below (rW HO_2002) hb); replace HO_2003 := Aside0.mk (Kd.R_below (rW HO_2003) hb); replace BK1 := bkB BK1 hb; replace BK2 := bkB BK2 hb; replace HB := hbS HB hb; clear hb hbox hg; have hnb17 := NB16_1.out; have hnc17 := NB1_16.out; have hnb18 := NB16_2.out; have hnc18 := NB2_16.out; obtain ⟨hcz19_0, hcz19_1, hcz19_2, hcz19_3, hfz19_0, hfz19_1, hfz19_2, hfz19_3⟩ := bc4 BK16) | ((with_reducible refine gate_store (t := 26) (p := 6) rfl ?_); refine store_event (t := 26) (p := 6) (v := ?vo_w20) (w1 := ((((w16.setCell ⟨gb16, 0, none⟩ (.int .i64 ((rd_T26 l0 x11_1).f0))).setCell ⟨gb16, 1, none⟩ (.int .u32 ((rd_T26 l0 x11_1).f1))).setCell ⟨gb16, 2, none⟩ (.slice A15_2 ((rd_T26 l0 x11_1).f2).length c15_2)).setCell ⟨gb16, 3, none⟩ (.slice A15_3 ((rd_T26 l0 x11_1).f3).length c15_3))) ?hg ?ho ?hn ?hr ?_; (case ho => rfl); (case hg => rfl); (case hn => rfl); (case hr => first | (go_simp; done) | (go_simp; rfl)); intro w20 hw; have n0_ : Aside0 (Kd.R (Kd.int .u32) 22 w20 w.heap.size (fun k_ => some k_ ≠ (u2003 : Value).ownBlock) u2002 x2002_1) := ⟨(by rw [hw]; exact (rW HO_2002))⟩; have n1_ : Aside0 (Kd.R (Kd.int .u32) 22 w20 w.heap.size (fun k_ => some k_ ≠ (u2002 : Value).ownBlock) u2003 x2003_1) := ⟨(by rw [hw]; exact (rW HO_2003))⟩; have n2_ : Aside0 (w20.heap[gb1]? = some (.cells #[.int .u32 x2000_1, .int .i64 x2001_1, u2002, u2003, .int .u32 x2004_1, .int .u32 x2005_1, .int .i64 x2006_1, .int .u32 x2007_1] 30 (0, 0))) := ⟨(by rw [hw]; exact (bkV BK1))⟩; have n3_ : Aside0 (w20.heap[gb2]? = some (.cells #[.int .u32 0, .int .i64 0, .slice none 0 0, .slice none 0 0, .int .u32 0, .int .u32 0, .int .i64 0, .int .u32 0] 30 (0, 0))) := ⟨(by rw [hw]; exact (bkV BK2))⟩; have n4_ : Aside0 (w20.heap[gb16]? = some (.cells #[.int .i64 ((rd_T26 l0 x11_1).f0), .int .u32 ((rd_T26 l0 x11_1).f1), .slice A15_2 ((rd_T26 l0 x11_1).f2).length c15_2, .slice A15_3 ((rd_T26 l0 x11_1).f3).length c15_3] 26 (0, 0))) := ⟨(by rw [hw]; exact (bp4 BK16))⟩; have n5_ : Aside0 (Below w.heap.size w w20) := ⟨(by rw [hw]; exact (hbW HB))⟩; clear hw; clear HO_2002; clear HO_2003; clear BK1; clear BK2; clear BK16; clear HB; have HO_2002 := n0_; have HO_2003 := n1_; have BK1 := n2_; have BK2 := n3_; have BK16 := n4_; have HB := n5_; clear n0_ n1_ n2_ n3_ n4_ n5_; obtain ⟨hcz21_0, hcz21_1, hcz21_2, hcz21_3, hfz21_0, hfz21_1, hfz21_2, hfz21_3⟩ := bc4 BK16; have hnb22 := NB1_2.out; have hnc22 := NB2_1.out; obtain ⟨hcz23_0, hcz23_1, hcz23_2, hcz23_3, hcz23_4, hcz23_5, hcz23_6, hcz23_7, hfz23_0, hfz23_1, hfz23_2, hfz23_3, hfz23_4, hfz23_5, hfz23_6, hfz23_7⟩ := bc8 BK1; obtain ⟨Ao24, co24, eo24⟩ := Kd.R_slice HO_2002.out; subst eo24; obtain ⟨Ao25, co25, eo25⟩ := Kd.R_slice HO_2003.out; subst eo25) | ((with_reducible refine gate_callee (f := 13) rfl ?_); refine goesL_ (some 17) rfl rfl Try.func13 (by kernel_rfl) rfl #[.agg #[.int .i64 ((rd_T26 l0 x11_1).f0), .int .u32 ((rd_T26 l0 x11_1).f1), .slice A15_2 ((rd_T26 l0 x11_1).f2).length c15_2, .slice A15_3 ((rd_T26 l0 x11_1).f3).length c15_3], .agg #[.int .u32 x2000_1, .int .i64 x2001_1, .slice Ao24 x2002_1.length co24, .slice Ao25 x2003_1.length co25, .int .u32 x2004_1, .int .u32 x2005_1, .int .i64 x2006_1, .int .u32 x2007_1]] rfl (by (try simp only [List.map_toArray, List.map_cons, List.map_nil]); first | done | rfl | (simp only [List.length_drop, List.length_take]; rfl)) ?_; (with_reducible refine (q8z.calls k1 ((rd_T26 l0 x11_1).f0) ((rd_T26 l0 x11_1).f1) (fun k_ => k_ < w.heap.size) _ _ ((rd_T26 l0 x11_1).f2) _ _ ((rd_T26 l0 x11_1).f3) x2000_1 x2001_1 _ _ x2002_1 _ _ x2003_1 x2004_1 x2005_1 x2006_1 x2007_1 t17 t18 t19 t22 t25 t26 t27 t28 _ ?side1 ?side2 ?side3 ?side4 ?side5 ?side6 ?side7 A15.out).mono ?_); (case side1 => exact Kd.V_mk HC15_2.out (Kd.F_below (Kd.C_F (Kd.heap_int .u32) HR15_2.out) (hbW HB))); (case side2 => repeat (first | exact (Kd.C_below HR15_3.out HB.out) | (with_reducible refine Kd.C_alloc ?_ _) | (with_reducible refine Kd.C_drewN ?_ _) | (with_reducible refine Kd.C_drew ?_))); (case side3 => exact HC15_3.out); (case side4 => repeat (first | exact (Kd.R_reads' HO_2002.out).2.2 | (with_reducible refine Kd.C_alloc ?_ _) | (with_reducible refine Kd.C_drewN ?_ _) | (with_reducible refine Kd.C_drew ?_))); (case side5 => exact (Kd.R_reads' HO_2002.out).2.1); (case side6 => repeat (first | exact (Kd.R_reads' HO_2003.out).2.2 | (with_reducible refine Kd.C_alloc ?_ _) | (with_reducible refine Kd.C_drewN ?_ _) | (with_reducible refine Kd.C_drew ?_))); (case side7 => exact (Kd.R_reads' HO_2003.out).2.1); rintro e w26 ⟨v20, v23, rfl, ho0, ho1, hb⟩; refine ⟨_, rfl, ?_⟩; have HO21 := Aside0.mk (Kd.R_lower (Kd.R_new' (Kd.R_new' (Kd.R_mono (ok' := fun k_ => some k_ ≠ (v23 : Value).ownBlock) ho0 (fun _ hk_ => hk_.2)) (Kd.R_lt (rW HO_2002))) (Kd.R_lt (rW HO_2003))) (below_size (hbW HB))); have HO24 := Aside0.mk (Kd.R_lower (Kd.R_new' (Kd.R_new' (Kd.R_mono (ok' := fun k_ => some k_ ≠ (v20 : Value).ownBlock) ho1 (fun _ hk_ => hk_.2)) (Kd.R_lt (rW HO_2002))) (Kd.R_lt (rW HO_2003))) (below_size (hbW HB))); replace HO_2002 := Aside0.mk (Kd.R_mono (Kd.R_told (Kd.R_told (Kd.R_old (rW HO_2002) hb) (Kd.R_base ho0)) (Kd.R_base ho1)) (fun _ h_ => h_.1)); replace HO_2003 := Aside0.mk (Kd.R_mono (Kd.R_told (Kd.R_told (Kd.R_old (rW HO_2003) hb) (Kd.R_base ho0)) (Kd.R_base ho1)) (fun _ h_ => h_.1)); replace BK1 := bkB BK1 hb; replace BK2 := bkB BK2 hb; replace BK16 := bkB BK16 hb; replace HB := hbS HB hb; (try clear hb); (try clear ho0); (try clear ho1); obtain ⟨hcz27_0, hcz27_1, hcz27_2, hcz27_3, hcz27_4, hcz27_5, hcz27_6, hcz27_7, hfz27_0, hfz27_1, hfz27_2, hfz27_3, hfz27_4, hfz27_5, hfz27_6, hfz27_7⟩ := bc8 BK1; obtain ⟨Ao28, co28, eo28⟩ := Kd.R_slice HO21.out; subst eo28; obtain ⟨Ao29, co29, eo29⟩ := Kd.R_slice HO24.out; subst eo29))
      go_roundg k1
      case measure => have := HK1.out; omega
      case rel => exact ⟨(wrap64 (x11_1 + 1)), (t17), (t18), (t19), (t22), (t25), (t26), (t27), (t28), (.slice Ao28 t19.length co28), (.slice Ao29 t22.length co29), (by first | rfl | (simp; done) | (simp [*]; done)), H', ⟨by have := HK1.out; omega⟩, ⟨moR (rW HO21)⟩, ⟨moR (rW HO24)⟩, ⟨by (with_reducible repeat (first | refine blk_drewN ?_ _ | refine blk_drew ?_ | refine blk_alloc ?_ _)); refine blk_put (cs := #[.int .u32 t17, .int .i64 t18, .slice Ao28 t19.length co28, .slice Ao29 t22.length co29, .int .u32 t25, .int .u32 t26, .int .i64 t27, .int .u32 x2007_1]) ?_ 7 _ rfl; (with_reducible repeat (first | refine blk_drewN ?_ _ | refine blk_drew ?_ | refine blk_alloc ?_ _)); refine blk_put (cs := #[.int .u32 t17, .int .i64 t18, .slice Ao28 t19.length co28, .slice Ao29 t22.length co29, .int .u32 t25, .int .u32 t26, .int .i64 x2006_1, .int .u32 x2007_1]) ?_ 6 _ rfl; (with_reducible repeat (first | refine blk_drewN ?_ _ | refine blk_drew ?_ | refine blk_alloc ?_ _)); refine blk_put (cs := #[.int .u32 t17, .int .i64 t18, .slice Ao28 t19.length co28, .slice Ao29 t22.length co29, .int .u32 t25, .int .u32 x2005_1, .int .i64 x2006_1, .int .u32 x2007_1]) ?_ 5 _ rfl; (with_reducible repeat (first | refine blk_drewN ?_ _ | refine blk_drew ?_ | refine blk_alloc ?_ _)); refine blk_put (cs := #[.int .u32 t17, .int .i64 t18, .slice Ao28 t19.length co28, .slice Ao29 t22.length co29, .int .u32 x2004_1, .int .u32 x2005_1, .int .i64 x2006_1, .int .u32 x2007_1]) ?_ 4 _ rfl; (with_reducible repeat (first | refine blk_drewN ?_ _ | refine blk_drew ?_ | refine blk_alloc ?_ _)); refine blk_put (cs := #[.int .u32 t17, .int .i64 t18, .slice Ao28 t19.length co28, .slice Ao25 x2003_1.length co25, .int .u32 x2004_1, .int .u32 x2005_1, .int .i64 x2006_1, .int .u32 x2007_1]) ?_ 3 _ rfl; (with_reducible repeat (first | refine blk_drewN ?_ _ | refine blk_drew ?_ | refine blk_alloc ?_ _)); refine blk_put (cs := #[.int .u32 t17, .int .i64 t18, .slice Ao24 x2002_1.length co24, .slice Ao25 x2003_1.length co25, .int .u32 x2004_1, .int .u32 x2005_1, .int .i64 x2006_1, .int .u32 x2007_1]) ?_ 2 _ rfl; (with_reducible repeat (first | refine blk_drewN ?_ _ | refine blk_drew ?_ | refine blk_alloc ?_ _)); refine blk_put (cs := #[.int .u32 t17, .int .i64 x2001_1, .slice Ao24 x2002_1.length co24, .slice Ao25 x2003_1.length co25, .int .u32 x2004_1, .int .u32 x2005_1, .int .i64 x2006_1, .int .u32 x2007_1]) ?_ 1 _ rfl; (with_reducible repeat (first | refine blk_drewN ?_ _ | refine blk_drew ?_ | refine blk_alloc ?_ _)); refine blk_put (cs := #[.int .u32 x2000_1, .int .i64 x2001_1, .slice Ao24 x2002_1.length co24, .slice Ao25 x2003_1.length co25, .int .u32 x2004_1, .int .u32 x2005_1, .int .i64 x2006_1, .int .u32 x2007_1]) ?_ 0 _ rfl; (with_reducible repeat (first | refine blk_drewN ?_ _ | refine blk_drew ?_ | refine blk_alloc ?_ _)); exact BK1.out⟩, ⟨by (with_reducible repeat (first | refine blk_drewN ?_ _ | refine blk_drew ?_ | refine blk_alloc ?_ _)); refine blk_far ?_ NB2_1.out _; (with_reducible repeat (first | refine blk_drewN ?_ _ | refine blk_drew ?_ | refine blk_alloc ?_ _)); refine blk_far ?_ NB2_1.out _; (with_reducible repeat (first | refine blk_drewN ?_ _ | refine blk_drew ?_ | refine blk_alloc ?_ _)); refine blk_far ?_ NB2_1.out _; (with_reducible repeat (first | refine blk_drewN ?_ _ | refine blk_drew ?_ | refine blk_alloc ?_ _)); refine blk_far ?_ NB2_1.out _; (with_reducible repeat (first | refine blk_drewN ?_ _ | refine blk_drew ?_ | refine blk_alloc ?_ _)); refine blk_far ?_ NB2_1.out _; (with_reducible repeat (first | refine blk_drewN ?_ _ | refine blk_drew ?_ | refine blk_alloc ?_ _)); refine blk_far ?_ NB2_1.out _; (with_reducible repeat (first | refine blk_drewN ?_ _ | refine blk_drew ?_ | refine blk_alloc ?_ _)); refine blk_far ?_ NB2_1.out _; (with_reducible repeat (first | refine blk_drewN ?_ _ | refine blk_drew ?_ | refine blk_alloc ?_ _)); refine blk_far ?_ NB2_1.out _; (with_reducible repeat (first | refine blk_drewN ?_ _ | refine blk_drew ?_ | refine blk_alloc ?_ _)); exact BK2.out⟩, ⟨hbW HB⟩⟩
     ·
      rw [if_neg c14] at H
      exact absurd H (by simp)
    ·
     rw [if_neg c13] at H
     exact absurd H (by simp)
   ·
    rw [if_neg c12] at H
    have c12b0 : decide (x11_1 < (l0.length : Int)) = false := decide_eq_false c12
    clear c12
    simp only [Option.some.injEq, Prod.mk.injEq] at H
    obtain ⟨rfl, rfl, rfl, rfl, rfl, rfl, rfl, rfl⟩ := H
    have hnb30 := NB1_2.out
    have hnc30 := NB2_1.out
    obtain ⟨hcz31_0, hcz31_1, hcz31_2, hcz31_3, hcz31_4, hcz31_5, hcz31_6, hcz31_7, hfz31_0, hfz31_1, hfz31_2, hfz31_3, hfz31_4, hfz31_5, hfz31_6, hfz31_7⟩ := bc8 BK1
    obtain ⟨hcz32_0, hcz32_1, hcz32_2, hcz32_3, hcz32_4, hcz32_5, hcz32_6, hcz32_7, hfz32_0, hfz32_1, hfz32_2, hfz32_3, hfz32_4, hfz32_5, hfz32_6, hfz32_7⟩ := bc8 BK2
    obtain ⟨Ao33, co33, eo33⟩ := Kd.R_slice HO_2002.out
    subst eo33
    obtain ⟨Ao34, co34, eo34⟩ := Kd.R_slice HO_2003.out
    subst eo34
    go_wp2
    refine bodyPost_ret (results_cell_row rfl _ _ gb2 30 #[.int .u32 x2000_1, .int .i64 x2001_1, .slice Ao33 x2002_1.length co33, .slice Ao34 x2003_1.length co34, .int .u32 x2004_1, .int .u32 x2005_1, .int .i64 x2006_1, .int .u32 x2007_1] (0, 0) _ rfl (bp8 BK2) Try.underlying30 rfl (by kernel_rfl)) rfl ?_
    exact ⟨_, _, by first | rfl | (simp [errW_none, errW_some] <;> rfl) | (simp [*, errW_none, errW_some] <;> rfl), moR (rW HO_2002), moR (rW HO_2003), hbW HB⟩

/-! ### dragomanref03_Copy: function 12 -/
def q19z.f (a0_0 : Int) (a0_1 : Int) (l0_2 : List Int) (l0_3 : List Int) (a0_4 : Int) (a0_5 : Int) (a0_6 : Int) (a0_7 : Int) : Option (Int × Int × List Int × List Int × Int × Int × Int × Int) := (some (([] : List Int) : List Int)).bind fun y3 => (if y3.length + l0_2.length < 35184372088832 then ((some (([] : List Int) : List Int)).bind fun y9 => (if y9.length + l0_3.length < 35184372088832 then (some (a0_0, a0_1, (y3 ++ l0_2), (y9 ++ l0_3), a0_4, a0_5, a0_6, a0_7)) else (none))) else (none))
set_option maxHeartbeats 8000000 in
set_option maxRecDepth 100000 in
theorem q19z.calls (a0_0 : Int) (a0_1 : Int) (A0_2 : Option Addr) (c0_2 : Nat) (l0_2 : List Int) (A0_3 : Option Addr) (c0_3 : Nat) (l0_3 : List Int) (a0_4 : Int) (a0_5 : Int) (a0_6 : Int) (a0_7 : Int) (r1 : Int) (r2 : Int) (r3 : List Int) (r4 : List Int) (r5 : Int) (r6 : Int) (r7 : Int) (r8 : Int) (w : World) (hr0_2 : Kd.C (Kd.int .u32) w A0_2 l0_2.length l0_2) (hc0_2 : l0_2.length ≤ c0_2) (hr0_3 : Kd.C (Kd.int .u32) w A0_3 l0_3.length l0_3) (hc0_3 : l0_3.length ≤ c0_3) (h : q19z.f a0_0 a0_1 l0_2 l0_3 a0_4 a0_5 a0_6 a0_7 = some (r1, r2, r3, r4, r5, r6, r7, r8)) :
  Calls Try.prog 12 #[.agg #[.int .u32 a0_0, .int .i64 a0_1, .slice A0_2 l0_2.length c0_2, .slice A0_3 l0_3.length c0_3, .int .u32 a0_4, .int .u32 a0_5, .int .i64 a0_6, .int .u32 a0_7]] w fun e w' => ∃ v2_ v3_ : Value, e = .returned (.agg #[.int .u32 r1, .int .i64 r2, v2_, v3_, .int .u32 r5, .int .u32 r6, .int .i64 r7, .int .u32 r8]) ∧ Kd.R (Kd.int .u32) 22 w' w.heap.size (fun k_ => some k_ ≠ (v3_ : Value).ownBlock) v2_ r3 ∧ Kd.R (Kd.int .u32) 22 w' w.heap.size (fun k_ => some k_ ≠ (v2_ : Value).ownBlock) v3_ r4 ∧ Below w.heap.size w w' := by
 have hu30 := Try.underlying30
 have HR0_2 := Aside0.mk hr0_2
 have HC0_2 := Aside0.mk hc0_2
 clear hr0_2 hc0_2
 have HR0_3 := Aside0.mk hr0_3
 have HC0_3 := Aside0.mk hc0_3
 clear hr0_3 hc0_3
 have HB := Aside0.mk (Below.refl w.heap.size w)
 have H : ((some (([] : List Int) : List Int)).bind fun y3 => (if y3.length + l0_2.length < 35184372088832 then ((some (([] : List Int) : List Int)).bind fun y9 => (if y9.length + l0_3.length < 35184372088832 then (some (a0_0, a0_1, (y3 ++ l0_2), (y9 ++ l0_3), a0_4, a0_5, a0_6, a0_7)) else (none))) else (none))) = some (r1, r2, r3, r4, r5, r6, r7, r8) := h
 clear h
 obtain ⟨y3, hy3⟩ : ∃ y_ : List Int, y_ = (([] : List Int)) := ⟨_, rfl⟩
 replace H : (if y3.length + l0_2.length < 35184372088832 then ((some (([] : List Int) : List Int)).bind fun y9 => (if y9.length + l0_3.length < 35184372088832 then (some (a0_0, a0_1, (y3 ++ l0_2), (y9 ++ l0_3), a0_4, a0_5, a0_6, a0_7)) else (none))) else (none)) = some (r1, r2, r3, r4, r5, r6, r7, r8) := by first | (rw [hy3]; with_reducible exact H) | (have H2_ := (Option.bind_some _ _).symm.trans H; rw [hy3]; with_reducible exact H2_) | (have H2_ := (Option.bind_some _ _).symm.trans H; with_reducible exact H2_) | with_reducible exact H | (rw [hy3]; exact H) | exact H
 have Ny3 := Aside0.mk hy3
 clear hy3
 by_cases c2 : y3.length + l0_2.length < 35184372088832
 ·
  rw [if_pos c2] at H
  have LMc2 := Aside0.mk c2
  clear c2
  obtain ⟨y6, hy6⟩ : ∃ y_ : List Int, y_ = (y3 ++ l0_2) := ⟨_, rfl⟩
  replace H : ((some (([] : List Int) : List Int)).bind fun y9 => (if y9.length + l0_3.length < 35184372088832 then (some (a0_0, a0_1, y6, (y9 ++ l0_3), a0_4, a0_5, a0_6, a0_7)) else (none))) = some (r1, r2, r3, r4, r5, r6, r7, r8) := by first | (rw [hy6]; with_reducible exact H) | (have H2_ := (Option.bind_some _ _).symm.trans H; rw [hy6]; with_reducible exact H2_) | (have H2_ := (Option.bind_some _ _).symm.trans H; with_reducible exact H2_) | with_reducible exact H | (rw [hy6]; exact H) | exact H
  have Ny6 := Aside0.mk hy6
  clear hy6
  obtain ⟨y9, hy9⟩ : ∃ y_ : List Int, y_ = (([] : List Int)) := ⟨_, rfl⟩
  replace H : (if y9.length + l0_3.length < 35184372088832 then (some (a0_0, a0_1, y6, (y9 ++ l0_3), a0_4, a0_5, a0_6, a0_7)) else (none)) = some (r1, r2, r3, r4, r5, r6, r7, r8) := by first | (rw [hy9]; with_reducible exact H) | (have H2_ := (Option.bind_some _ _).symm.trans H; rw [hy9]; with_reducible exact H2_) | (have H2_ := (Option.bind_some _ _).symm.trans H; with_reducible exact H2_) | with_reducible exact H | (rw [hy9]; exact H) | exact H
  have Ny9 := Aside0.mk hy9
  clear hy9
  by_cases c3 : y9.length + l0_3.length < 35184372088832
  ·
   rw [if_pos c3] at H
   have LMc3 := Aside0.mk c3
   clear c3
   obtain ⟨y12, hy12⟩ : ∃ y_ : List Int, y_ = (y9 ++ l0_3) := ⟨_, rfl⟩
   replace H : (some (a0_0, a0_1, y6, y12, a0_4, a0_5, a0_6, a0_7)) = some (r1, r2, r3, r4, r5, r6, r7, r8) := by first | (rw [hy12]; with_reducible exact H) | (have H2_ := (Option.bind_some _ _).symm.trans H; rw [hy12]; with_reducible exact H2_) | (have H2_ := (Option.bind_some _ _).symm.trans H; with_reducible exact H2_) | with_reducible exact H | (rw [hy12]; exact H) | exact H
   have Ny12 := Aside0.mk hy12
   clear hy12
   simp only [Option.some.injEq, Prod.mk.injEq] at H
   obtain ⟨rfl, rfl, rfl, rfl, rfl, rfl, rfl, rfl⟩ := H
   go_enter Try.func12, Try.ntmps12
   go_wp2_with (first | ((with_reducible refine gate_dst (N := 1) rfl ?_); refine box_event ?hg (N := 1) ?hd (cs := #[.int .u32 a0_0, .int .i64 a0_1, .slice A0_2 l0_2.length c0_2, .slice A0_3 l0_3.length c0_3, .int .u32 a0_4, .int .u32 a0_5, .int .i64 a0_6, .int .u32 a0_7]) (t := 30) ?hr ?_; (case hd => rfl); (case hg => rfl); (case hr => first | (go_simp; done) | (go_simp; rfl)); intro gb1 hg w4 hbox hb; have BK1 := Aside0.mk (hbox); have GW1 := gwS hg HB; have GE1 := gwS hg HB; replace HB := hbS HB hb; clear hb hbox hg) | ((with_reducible refine gate_dst (N := 2) rfl ?_); refine box_event ?hg (N := 2) ?hd (cs := #[.int .u32 0, .int .i64 0, .slice none 0 0, .slice none 0 0, .int .u32 0, .int .u32 0, .int .i64 0, .int .u32 0]) (t := 30) ?hr ?_; (case hd => rfl); (case hg => rfl); (case hr => first | (go_simp; done) | (go_simp; rfl)); intro gb2 hg w5 hbox hb; have BK2 := Aside0.mk (hbox); have GW2 := gwS hg HB; have GE2 := gwS hg HB; have NB1_2 := nbL hg BK1; have NB2_1 := nbG hg BK1; replace BK1 := bkB BK1 hb; replace HB := hbS HB hb; clear hb hbox hg) | ((with_reducible refine gate_dst (N := 3) rfl ?_); refine Kd.R_lit (Kd.int .u32) _ 22 ?hg (N := 3) ?hd (xs := ([] : List Int)) (inner := []) (ok := fun _ => True) (okp := fun _ => True) ?hr ?hp (fun _ hk => hk) trivial (Below.refl _ _) (Nat.le_refl _) (by simp) ?_; (case hd => rfl); (case hg => rfl); (case hr => first | (go_simp; done) | (go_simp; rfl)); (case hp => exact (Reps.none _ _)); intro v4 w6 ho7 hb hg_ hnew_; clear hg_ hnew_; (first | rw [← Ny3.out] at ho7 | (simp only [Int.reduceToNat] at ho7; rw [← Ny3.out] at ho7)); have HO5 := Aside0.mk (Kd.R_lower ho7 (below_size (hbW HB))); replace BK1 := bkB BK1 hb; replace BK2 := bkB BK2 hb; replace HB := hbS HB hb; clear hb ho7; have hnb8 := NB1_2.out; have hnc8 := NB2_1.out; obtain ⟨hcz9_0, hcz9_1, hcz9_2, hcz9_3, hcz9_4, hcz9_5, hcz9_6, hcz9_7, hfz9_0, hfz9_1, hfz9_2, hfz9_3, hfz9_4, hfz9_5, hfz9_6, hfz9_7⟩ := bc8 BK1) | ((with_reducible refine gate_builtin (b := .append) (xs := #[.tmp 3, .tmp 5]) rfl ?_); at_builtin; refine Kd.R_append_rows (Kd.int .u32) (w0 := w) w.heap.size rfl (.tmp 3) (.tmp 5) 23 22 (.int .u32 0) 4 rfl Try.underlying23 info22 rfl (by decide) (by omega) v4 y3 l0_2 _ _ _ (fun _ => True) (fun _ => False) rfl rfl ?aO ?aR (fun _ _ h => h) (fun _ h => h.elim) ?aF ?aB ?aS ?aL ?_; (case aR => repeat (first | exact (Kd.C_below HR0_2.out HB.out) | (with_reducible refine Kd.C_alloc ?_ _) | (with_reducible refine Kd.C_drewN ?_ _) | (with_reducible refine Kd.C_drew ?_))); (case aB => exact (hbW HB)); (case aF => exact (fun _ _ => trivial)); (case aO => exact (rW HO5)); (case aS => exact (below_size (hbW HB))); (case aL => have := LMc2.out; omega); intro v7 w10 ho hb hg hat; rw [← Ny6.out] at ho; have n0_ := Aside0.mk (blk_grown (g := gb1) (o := .cells #[.int .u32 a0_0, .int .i64 a0_1, .slice A0_2 l0_2.length c0_2, .slice A0_3 l0_3.length c0_3, .int .u32 a0_4, .int .u32 a0_5, .int .i64 a0_6, .int .u32 a0_7] 30 (0, 0)) (bkW BK1) hg (Kd.R_ne HO5.out BK1.out (by decide))); have n1_ := Aside0.mk (blk_grown (g := gb2) (o := .cells #[.int .u32 0, .int .i64 0, .slice none 0 0, .slice none 0 0, .int .u32 0, .int .u32 0, .int .i64 0, .int .u32 0] 30 (0, 0)) (bkW BK2) hg (Kd.R_ne HO5.out BK2.out (by decide))); have n2_ := Aside0.mk (hb); have n3_ := Aside0.mk (ho); clear BK1; clear BK2; clear HB; clear HO5; have BK1 := n0_; have BK2 := n1_; have HB := n2_; have HO8 := n3_; clear n0_ n1_ n2_ n3_; clear ho hb hg hat; obtain ⟨Ao11, co11, eo11⟩ := Kd.R_slice HO8.out; subst eo11; obtain ⟨hcz12_0, hcz12_1, hcz12_2, hcz12_3, hcz12_4, hcz12_5, hcz12_6, hcz12_7, hfz12_0, hfz12_1, hfz12_2, hfz12_3, hfz12_4, hfz12_5, hfz12_6, hfz12_7⟩ := bc8 BK1) | ((with_reducible refine gate_dst (N := 8) rfl ?_); refine Kd.R_lit (Kd.int .u32) _ 22 ?hg (N := 8) ?hd (xs := ([] : List Int)) (inner := []) (ok := fun _ => True) (okp := fun _ => True) ?hr ?hp (fun _ hk => hk) trivial (Below.refl _ _) (Nat.le_refl _) (by simp) ?_; (case hd => rfl); (case hg => rfl); (case hr => first | (go_simp; done) | (go_simp; rfl)); (case hp => exact (Reps.none _ _)); intro v10 w13 ho14 hb hg_ hnew_; clear hg_ hnew_; (first | rw [← Ny9.out] at ho14 | (simp only [Int.reduceToNat] at ho14; rw [← Ny9.out] at ho14)); have HO11 := Aside0.mk (Kd.R_lower (Kd.R_new' ho14 (Kd.R_lt (rW HO8))) (below_size (hbW HB))); replace HO8 := Aside0.mk (Kd.R_elder' (rW HO8) (Kd.R_base ho14) hb); replace BK1 := Aside0.mk (blk_below (g := gb1) (o := .cells #[.int .u32 a0_0, .int .i64 a0_1, .slice Ao11 y6.length co11, .slice A0_3 l0_3.length c0_3, .int .u32 a0_4, .int .u32 a0_5, .int .i64 a0_6, .int .u32 a0_7] 30 (0, 0)) (by (with_reducible repeat (first | refine blk_drewN ?_ _ | refine blk_drew ?_ | refine blk_alloc ?_ _)); refine blk_put (cs := #[.int .u32 a0_0, .int .i64 a0_1, .slice A0_2 l0_2.length c0_2, .slice A0_3 l0_3.length c0_3, .int .u32 a0_4, .int .u32 a0_5, .int .i64 a0_6, .int .u32 a0_7]) ?_ 2 _ rfl; (with_reducible repeat (first | refine blk_drewN ?_ _ | refine blk_drew ?_ | refine blk_alloc ?_ _)); exact BK1.out) hb); replace BK2 := bvB BK2 hb; replace HB := hbS HB hb; clear hb ho14; obtain ⟨hcz15_0, hcz15_1, hcz15_2, hcz15_3, hcz15_4, hcz15_5, hcz15_6, hcz15_7, hfz15_0, hfz15_1, hfz15_2, hfz15_3, hfz15_4, hfz15_5, hfz15_6, hfz15_7⟩ := bc8 BK1) | ((with_reducible refine gate_builtin (b := .append) (xs := #[.tmp 8, .tmp 10]) rfl ?_); at_builtin; refine Kd.R_append_rows (Kd.int .u32) (w0 := w) w.heap.size rfl (.tmp 8) (.tmp 10) 23 22 (.int .u32 0) 4 rfl Try.underlying23 info22 rfl (by decide) (by omega) v10 y9 l0_3 _ _ _ (fun k_ => some k_ ≠ (.slice Ao11 y6.length co11 : Value).ownBlock) (fun _ => False) rfl rfl ?aO ?aR (fun _ _ h => h) (fun _ h => h.elim) ?aF ?aB ?aS ?aL ?_; (case aR => repeat (first | exact (Kd.C_below HR0_3.out HB.out) | (with_reducible refine Kd.C_alloc ?_ _) | (with_reducible refine Kd.C_drewN ?_ _) | (with_reducible refine Kd.C_drew ?_))); (case aB => exact (hbW HB)); (case aF => exact (fun k_ hk => Kd.fresh' (Kd.R_lt (rW HO8)) k_ hk)); (case aO => exact (by (with_reducible repeat (first | apply Kd.R_alloc | apply Kd.R_drewN | apply Kd.R_drew)); exact Kd.R_mono HO11.out (fun _ hk => hk.2))); (case aS => exact (below_size (hbW HB))); (case aL => have := LMc3.out; omega); intro v13 w16 ho hb hg hat; rw [← Ny12.out] at ho; have n0_ := Aside0.mk (blk_grown (g := gb1) (o := .cells #[.int .u32 a0_0, .int .i64 a0_1, .slice Ao11 y6.length co11, .slice A0_3 l0_3.length c0_3, .int .u32 a0_4, .int .u32 a0_5, .int .i64 a0_6, .int .u32 a0_7] 30 (0, 0)) (bkW BK1) hg (Kd.R_ne HO11.out BK1.out (by decide))); have n1_ := Aside0.mk (blk_grown (g := gb2) (o := .cells #[.int .u32 0, .int .i64 0, .slice none 0 0, .slice none 0 0, .int .u32 0, .int .u32 0, .int .i64 0, .int .u32 0] 30 (0, 0)) (bkW BK2) hg (Kd.R_ne HO11.out BK2.out (by decide))); have n2_ := Aside0.mk (Kd.R_after (ok := (fun _ => True)) (rW HO8) hg hat); have n3_ := Aside0.mk (hb); have n4_ := Aside0.mk (ho); clear BK1; clear BK2; clear HO8; clear HB; clear HO11; have BK1 := n0_; have BK2 := n1_; have HO8 := n2_; have HB := n3_; have HO14 := n4_; clear n0_ n1_ n2_ n3_ n4_; clear ho hb hg hat; obtain ⟨Ao17, co17, eo17⟩ := Kd.R_slice HO14.out; subst eo17; obtain ⟨hcz18_0, hcz18_1, hcz18_2, hcz18_3, hcz18_4, hcz18_5, hcz18_6, hcz18_7, hfz18_0, hfz18_1, hfz18_2, hfz18_3, hfz18_4, hfz18_5, hfz18_6, hfz18_7⟩ := bc8 BK1; obtain ⟨hcz19_0, hcz19_1, hcz19_2, hcz19_3, hcz19_4, hcz19_5, hcz19_6, hcz19_7, hfz19_0, hfz19_1, hfz19_2, hfz19_3, hfz19_4, hfz19_5, hfz19_6, hfz19_7⟩ := bc8 BK2))
   refine bodyPost_ret (results_cell_row rfl _ _ gb2 30 #[.int .u32 a0_0, .int .i64 a0_1, .slice Ao11 y6.length co11, .slice Ao17 y12.length co17, .int .u32 a0_4, .int .u32 a0_5, .int .i64 a0_6, .int .u32 a0_7] (0, 0) _ rfl (bp8 BK2) Try.underlying30 rfl (by kernel_rfl)) rfl ?_
   exact ⟨_, _, by first | rfl | (simp [errW_none, errW_some] <;> rfl) | (simp [*, errW_none, errW_some] <;> rfl), moR (rW HO8), moR (rW HO14), hbW HB⟩
  ·
   rw [if_neg c3] at H
   exact absurd H (by simp)
 ·
  rw [if_neg c2] at H
  exact absurd H (by simp)

/-! ### dragomanref11_CommsRight: function 34 -/
def q20z.l0 : Nat → List (S53) → Int → Int → Option (Bool)
 | 0, _, _, _ => none
 | k + 1, x8, x9, x10 => if x10 < x9 then (if 0 ≤ x10 then (if x10 < (x8.length : Int) then (if (((rd_T53 x8 x10).f1).length : Int) > 64 then (some false) else (q20z.l0 k x8 x9 (wrap64 (x10 + 1)))) else (none)) else (none)) else (some true)
def q20z.f (k : Nat) (l0 : List (S53)) : Option (Bool) := if (l0.length : Int) > 64 then (some false) else (q20z.l0 k l0 (l0.length : Int) 0)
theorem q20z.mono_l : ∀ k, (∀ y0 y1 y2, LeO (q20z.l0 k y0 y1 y2) (q20z.l0 (k + 1) y0 y1 y2))
 | 0 => fun _ _ _ r h => by simp [q20z.l0] at h
 | k + 1 => by
  have ih0 := q20z.mono_l k
  ·
   intro y0 y1 y2
   unfold q20z.l0
   repeat' first
   | (with_reducible exact ih0 _ _ _)
   | (with_reducible exact LeO.refl _)
   | (with_reducible exact LeO.none _)
   | (with_reducible refine LeO.ite ?_ ?_)
   | (with_reducible refine LeO.bind ?_ (fun _ => ?_))
   | exact ih0 _ _ _
   | exact LeO.none _
   | refine LeO.ite ?_ ?_
   | refine LeO.bind ?_ (fun _ => ?_)
theorem q20z.mono : ∀ a0 k, LeO (q20z.f k a0) (q20z.f (k + 1) a0) := by
 intro a0 k
 have ih0 := q20z.mono_l k
 unfold q20z.f
 repeat' first
   | (with_reducible exact ih0 _ _ _)
   | (with_reducible exact LeO.refl _)
   | (with_reducible exact LeO.none _)
   | (with_reducible refine LeO.ite ?_ ?_)
   | (with_reducible refine LeO.bind ?_ (fun _ => ?_))
   | exact ih0 _ _ _
   | exact LeO.none _
   | refine LeO.ite ?_ ?_
   | refine LeO.bind ?_ (fun _ => ?_)
set_option maxHeartbeats 8000000 in
set_option maxRecDepth 100000 in
theorem q20z.calls (k : Nat) (A0 : Option Addr) (c0 : Nat) (l0 : List (S53)) (r : Bool) (w : World) (hr0 : Kd.C k53 w A0 l0.length l0) (hc0 : l0.length ≤ c0) (h : q20z.f k l0 = some r) :
  Calls Try.prog 34 #[.slice A0 l0.length c0] w fun e w' => e = .returned (.bool r) ∧ Below w.heap.size w w' := by
 have hu53 := Try.underlying53
 have HR0 := Aside0.mk hr0
 have HC0 := Aside0.mk hc0
 clear hr0 hc0
 have HB := Aside0.mk (Below.refl w.heap.size w)
 have H : (if (l0.length : Int) > 64 then (some false) else (q20z.l0 k l0 (l0.length : Int) 0)) = some r := h
 clear h
 by_cases c2 : (l0.length : Int) > 64
 ·
  rw [if_pos c2] at H
  have c2b0 : decide (64 < (l0.length : Int)) = true := decide_eq_true c2
  have c2b1 : decide (64 < l0.length) = true := decide_eq_true (by omega)
  clear c2
  obtain rfl := Option.some.inj H
  go_enter Try.func34, Try.ntmps34
  go_wp2
  go_ret
  exact ⟨by first | rfl | (simp [errW_none, errW_some] <;> rfl) | (simp [*, errW_none, errW_some] <;> rfl), hbW HB⟩
 ·
  rw [if_neg c2] at H
  have c2b0 : decide (64 < (l0.length : Int)) = false := decide_eq_false c2
  have c2b1 : decide (64 < l0.length) = false := decide_eq_false (by omega)
  clear c2
  have H' := Aside0.mk H
  clear H
  go_enter Try.func34, Try.ntmps34
  go_wp2
  go_loopg [10] k (fun kq v10 w' => ∃ (x10_1 : Int), v10 = .int .i64 x10_1 ∧ Aside0 (q20z.l0 kq l0 (l0.length : Int) x10_1 = some r) ∧ Aside0 (kq ≤ k) ∧ Aside0 (Below w.heap.size w w'))
  case atStart => exact ⟨(0), (by first | rfl | (simp; done) | (simp [*]; done)), H', ⟨Nat.le_refl _⟩, ⟨hbW HB⟩⟩
  case round =>
   clear H'
   try clear c2
   try clear c2b0
   try clear c2b1
   try clear p2
   obtain ⟨x10_1, rfl, HA, HK1, HB⟩ := hrel
   cases gk with
   | zero => exact absurd HA.out (by simp [q20z.l0])
   | succ k1 =>
    have H := HA.out
    clear HA
    simp only [q20z.l0] at H
    by_cases c3 : x10_1 < (l0.length : Int)
    ·
     rw [if_pos c3] at H
     have c3b0 : decide (x10_1 < (l0.length : Int)) = true := decide_eq_true c3
     clear c3
     by_cases c4 : 0 ≤ x10_1
     ·
      rw [if_pos c4] at H
      have c4b0 : decide (0 ≤ x10_1) = true := decide_eq_true c4
      clear c4
      by_cases c5 : x10_1 < (l0.length : Int)
      ·
       rw [if_pos c5] at H
       have c5b0 : decide (x10_1 < (l0.length : Int)) = true := decide_eq_true c5
       clear c5
       by_cases c6 : (((rd_T53 l0 x10_1).f1).length : Int) > 64
       ·
        rw [if_pos c6] at H
        have c6b0 : decide (64 < (((rd_T53 l0 x10_1).f1).length : Int)) = true := decide_eq_true c6
        have c6b1 : decide (64 < ((rd_T53 l0 x10_1).f1).length) = true := decide_eq_true (by omega)
        clear c6
        obtain rfl := Option.some.inj H
        have p1 : 0 ≤ (x10_1 : Int) := of_decide_eq_true (by first | (with_reducible assumption) | assumption)
        have q1 : x10_1 < (l0.length : Int) := of_decide_eq_true (by first | (with_reducible assumption) | assumption)
        obtain ⟨ad1, A1_1, c1_1, e1, hx1_0, hx1_1, hl1_1, hi1_1⟩ := at_T53 HR0.out x10_1 p1 q1
        cases e1
        replace hx1_0 := (HB.out.cell (World.block_lt_of_cell? w _ hx1_0)).trans hx1_0
        replace hx1_1 := (HB.out.cell (World.block_lt_of_cell? w _ hx1_1)).trans hx1_1
        have HR1_1 := Aside0.mk hi1_1
        have HC1_1 := Aside0.mk hl1_1
        clear hi1_1 hl1_1
        replace p1 := eq_true p1
        replace q1 := eq_true q1
        go_wp2_with (first | ((with_reducible refine gate_dst (N := 4) rfl ?_); refine box_event ?hg (N := 4) ?hd (cs := #[.bool false, .slice none 0 0]) (t := 53) ?hr ?_; (case hd => rfl); (case hg => rfl); (case hr => first | (go_simp; done) | (go_simp; rfl)); intro gb2 hg w7 hbox hb; have BK2 := Aside0.mk (hbox); have GW2 := gwS hg HB; have GE2 := gwS hg HB; replace HB := hbS HB hb; clear hb hbox hg; obtain ⟨hcz8_0, hcz8_1, hfz8_0, hfz8_1⟩ := bc2 BK2))
        go_ret
        exact ⟨by first | rfl | (simp [errW_none, errW_some] <;> rfl) | (simp [*, errW_none, errW_some] <;> rfl), hbW HB⟩
       ·
        rw [if_neg c6] at H
        have c6b0 : decide (64 < (((rd_T53 l0 x10_1).f1).length : Int)) = false := decide_eq_false c6
        have c6b1 : decide (64 < ((rd_T53 l0 x10_1).f1).length) = false := decide_eq_false (by omega)
        clear c6
        have H' := Aside0.mk H
        clear H
        have p1 : 0 ≤ (x10_1 : Int) := of_decide_eq_true (by first | (with_reducible assumption) | assumption)
        have q1 : x10_1 < (l0.length : Int) := of_decide_eq_true (by first | (with_reducible assumption) | assumption)
        obtain ⟨ad1, A1_1, c1_1, e1, hx1_0, hx1_1, hl1_1, hi1_1⟩ := at_T53 HR0.out x10_1 p1 q1
        cases e1
        replace hx1_0 := (HB.out.cell (World.block_lt_of_cell? w _ hx1_0)).trans hx1_0
        replace hx1_1 := (HB.out.cell (World.block_lt_of_cell? w _ hx1_1)).trans hx1_1
        have HR1_1 := Aside0.mk hi1_1
        have HC1_1 := Aside0.mk hl1_1
        clear hi1_1 hl1_1
        replace p1 := eq_true p1
        replace q1 := eq_true q1
        go_wp2_with (first | ((with_reducible refine gate_dst (N := 4) rfl ?_); refine box_event ?hg (N := 4) ?hd (cs := #[.bool false, .slice none 0 0]) (t := 53) ?hr ?_; (case hd => rfl); (case hg => rfl); (case hr => first | (go_simp; done) | (go_simp; rfl)); intro gb2 hg w9 hbox hb; have BK2 := Aside0.mk (hbox); have GW2 := gwS hg HB; have GE2 := gwS hg HB; replace HB := hbS HB hb; clear hb hbox hg; obtain ⟨hcz10_0, hcz10_1, hfz10_0, hfz10_1⟩ := bc2 BK2))
        go_roundg k1
        case measure => have := HK1.out; omega
        case rel => exact ⟨(wrap64 (x10_1 + 1)), (by first | rfl | (simp; done) | (simp [*]; done)), H', ⟨by have := HK1.out; omega⟩, ⟨hbW HB⟩⟩
      ·
       rw [if_neg c5] at H
       exact absurd H (by simp)
     ·
      rw [if_neg c4] at H
      exact absurd H (by simp)
    ·
     rw [if_neg c3] at H
     have c3b0 : decide (x10_1 < (l0.length : Int)) = false := decide_eq_false c3
     clear c3
     obtain rfl := Option.some.inj H
     go_wp2
     go_ret
     exact ⟨by first | rfl | (simp [errW_none, errW_some] <;> rfl) | (simp [*, errW_none, errW_some] <;> rfl), hbW HB⟩

/-! ### dragomanref12_Right: function 15 -/
mutual
def q21z.j0 : Nat → Int → Bool → Int → Int → List Int → List (S53) → Option (Bool)
 | 0, _, _, _, _, _, _ => none
 | k + 1, x6, x7, x2000, x2001, x2002, x2003 => if x7 = true then (some true) else (if x6 = 3 then (some (decide (x2001 ≤ 2))) else (if x6 = 5 then (q21z.l0 k x2002 (x2002.length : Int) 0 x2000 x2001 x2002 x2003) else (if x6 = 6 then (q21z.j2 k x6 (x6 == 6) x2000 x2001 x2002 x2003) else (q21z.j2 k x6 (x6 == 7) x2000 x2001 x2002 x2003))))
def q21z.l0 : Nat → List Int → Int → Int → Int → Int → List Int → List (S53) → Option (Bool)
 | 0, _, _, _, _, _, _, _ => none
 | k + 1, x19, x20, x21, x2000, x2001, x2002, x2003 => if x21 < x20 then (if 0 ≤ x21 then (if x21 < (x19.length : Int) then (if (rd x19 x21) = 0 then (some false) else (q21z.l0 k x19 x20 (wrap64 (x21 + 1)) x2000 x2001 x2002 x2003)) else (none)) else (none)) else (some (decide ((x2002.length : Int) ≤ 64)))
def q21z.j2 : Nat → Int → Bool → Int → Int → List Int → List (S53) → Option (Bool)
 | 0, _, _, _, _, _, _ => none
 | k + 1, x6, x32, x2000, x2001, x2002, x2003 => if x32 = true then (some (decide ((x2002.length : Int) ≤ 64))) else (if x6 = 8 then ((q20z.f k x2003).bind fun t3 => (some t3)) else (some false))
end
def q21z.f (k : Nat) (a0_0 : Int) (a0_1 : Int) (l0_2 : List Int) (l0_3 : List (S53)) : Option (Bool) := if a0_0 = 1 then (q21z.j0 k a0_0 (a0_0 == 1) a0_0 a0_1 l0_2 l0_3) else (if a0_0 = 2 then (q21z.j0 k a0_0 (a0_0 == 2) a0_0 a0_1 l0_2 l0_3) else (q21z.j0 k a0_0 (a0_0 == 4) a0_0 a0_1 l0_2 l0_3))
theorem q21z.mono_l : ∀ k, (∀ y0 y1 y2 y3 y4 y5, LeO (q21z.j0 k y0 y1 y2 y3 y4 y5) (q21z.j0 (k + 1) y0 y1 y2 y3 y4 y5)) ∧ (∀ y0 y1 y2 y3 y4 y5 y6, LeO (q21z.l0 k y0 y1 y2 y3 y4 y5 y6) (q21z.l0 (k + 1) y0 y1 y2 y3 y4 y5 y6)) ∧ (∀ y0 y1 y2 y3 y4 y5, LeO (q21z.j2 k y0 y1 y2 y3 y4 y5) (q21z.j2 (k + 1) y0 y1 y2 y3 y4 y5))
 | 0 => ⟨fun _ _ _ _ _ _ r h => by simp [q21z.j0] at h, fun _ _ _ _ _ _ _ r h => by simp [q21z.l0] at h, fun _ _ _ _ _ _ r h => by simp [q21z.j2] at h⟩
 | k + 1 => by
  obtain ⟨ih0, ih1, ih2⟩ := q21z.mono_l k
  refine ⟨?_, ?_, ?_⟩
  ·
   intro y0 y1 y2 y3 y4 y5
   unfold q21z.j0
   repeat' first
   | (with_reducible exact ih0 _ _ _ _ _ _)
   | (with_reducible exact ih1 _ _ _ _ _ _ _)
   | (with_reducible exact ih2 _ _ _ _ _ _)
   | (with_reducible exact q20z.mono _ _)
   | (with_reducible exact LeO.refl _)
   | (with_reducible exact LeO.none _)
   | (with_reducible refine LeO.ite ?_ ?_)
   | (with_reducible refine LeO.bind ?_ (fun _ => ?_))
   | exact ih0 _ _ _ _ _ _
   | exact ih1 _ _ _ _ _ _ _
   | exact ih2 _ _ _ _ _ _
   | exact q20z.mono _ _
   | exact LeO.none _
   | refine LeO.ite ?_ ?_
   | refine LeO.bind ?_ (fun _ => ?_)
  ·
   intro y0 y1 y2 y3 y4 y5 y6
   unfold q21z.l0
   repeat' first
   | (with_reducible exact ih0 _ _ _ _ _ _)
   | (with_reducible exact ih1 _ _ _ _ _ _ _)
   | (with_reducible exact ih2 _ _ _ _ _ _)
   | (with_reducible exact q20z.mono _ _)
   | (with_reducible exact LeO.refl _)
   | (with_reducible exact LeO.none _)
   | (with_reducible refine LeO.ite ?_ ?_)
   | (with_reducible refine LeO.bind ?_ (fun _ => ?_))
   | exact ih0 _ _ _ _ _ _
   | exact ih1 _ _ _ _ _ _ _
   | exact ih2 _ _ _ _ _ _
   | exact q20z.mono _ _
   | exact LeO.none _
   | refine LeO.ite ?_ ?_
   | refine LeO.bind ?_ (fun _ => ?_)
  ·
   intro y0 y1 y2 y3 y4 y5
   unfold q21z.j2
   repeat' first
   | (with_reducible exact ih0 _ _ _ _ _ _)
   | (with_reducible exact ih1 _ _ _ _ _ _ _)
   | (with_reducible exact ih2 _ _ _ _ _ _)
   | (with_reducible exact q20z.mono _ _)
   | (with_reducible exact LeO.refl _)
   | (with_reducible exact LeO.none _)
   | (with_reducible refine LeO.ite ?_ ?_)
   | (with_reducible refine LeO.bind ?_ (fun _ => ?_))
   | exact ih0 _ _ _ _ _ _
   | exact ih1 _ _ _ _ _ _ _
   | exact ih2 _ _ _ _ _ _
   | exact q20z.mono _ _
   | exact LeO.none _
   | refine LeO.ite ?_ ?_
   | refine LeO.bind ?_ (fun _ => ?_)
theorem q21z.mono : ∀ a0 a1 a2 a3 k, LeO (q21z.f k a0 a1 a2 a3) (q21z.f (k + 1) a0 a1 a2 a3) := by
 intro a0 a1 a2 a3 k
 obtain ⟨ih0, ih1, ih2⟩ := q21z.mono_l k
 unfold q21z.f
 repeat' first
   | (with_reducible exact ih0 _ _ _ _ _ _)
   | (with_reducible exact ih1 _ _ _ _ _ _ _)
   | (with_reducible exact ih2 _ _ _ _ _ _)
   | (with_reducible exact q20z.mono _ _)
   | (with_reducible exact LeO.refl _)
   | (with_reducible exact LeO.none _)
   | (with_reducible refine LeO.ite ?_ ?_)
   | (with_reducible refine LeO.bind ?_ (fun _ => ?_))
   | exact ih0 _ _ _ _ _ _
   | exact ih1 _ _ _ _ _ _ _
   | exact ih2 _ _ _ _ _ _
   | exact q20z.mono _ _
   | exact LeO.none _
   | refine LeO.ite ?_ ?_
   | refine LeO.bind ?_ (fun _ => ?_)
set_option maxHeartbeats 8000000 in
set_option maxRecDepth 100000 in
theorem q21z.calls (k : Nat) (a0_0 : Int) (a0_1 : Int) (A0_2 : Option Addr) (c0_2 : Nat) (l0_2 : List Int) (A0_3 : Option Addr) (c0_3 : Nat) (l0_3 : List (S53)) (r : Bool) (w : World) (hr0_2 : Kd.C (Kd.int .u32) w A0_2 l0_2.length l0_2) (hc0_2 : l0_2.length ≤ c0_2) (hr0_3 : Kd.C k53 w A0_3 l0_3.length l0_3) (hc0_3 : l0_3.length ≤ c0_3) (h : q21z.f k a0_0 a0_1 l0_2 l0_3 = some r) :
  Calls Try.prog 15 #[.agg #[.int .i64 a0_0, .int .u32 a0_1, .slice A0_2 l0_2.length c0_2, .slice A0_3 l0_3.length c0_3]] w fun e w' => e = .returned (.bool r) ∧ Below w.heap.size w w' := by
 have hu26 := Try.underlying26
 have HR0_2 := Aside0.mk hr0_2
 have HC0_2 := Aside0.mk hc0_2
 clear hr0_2 hc0_2
 have HR0_3 := Aside0.mk hr0_3
 have HC0_3 := Aside0.mk hc0_3
 clear hr0_3 hc0_3
 have HB := Aside0.mk (Below.refl w.heap.size w)
 have H : (if a0_0 = 1 then (q21z.j0 k a0_0 (a0_0 == 1) a0_0 a0_1 l0_2 l0_3) else (if a0_0 = 2 then (q21z.j0 k a0_0 (a0_0 == 2) a0_0 a0_1 l0_2 l0_3) else (q21z.j0 k a0_0 (a0_0 == 4) a0_0 a0_1 l0_2 l0_3))) = some r := h
 clear h
 have HC2 := Aside0.mk H
 clear H
 go_enter Try.func15, Try.ntmps15
 go_upto_if 7 with (first | ((with_reducible refine gate_dst (N := 1) rfl ?_); refine box_event ?hg (N := 1) ?hd (cs := #[.int .i64 a0_0, .int .u32 a0_1, .slice A0_2 l0_2.length c0_2, .slice A0_3 l0_3.length c0_3]) (t := 26) ?hr ?_; (case hd => rfl); (case hg => rfl); (case hr => first | (go_simp; done) | (go_simp; rfl)); intro gb1 hg w3 hbox hb; have BK1 := Aside0.mk (hbox); have GW1 := gwS hg HB; have GE1 := gwS hg HB; replace HB := hbS HB hb; clear hb hbox hg; obtain ⟨hcz4_0, hcz4_1, hcz4_2, hcz4_3, hfz4_0, hfz4_1, hfz4_2, hfz4_3⟩ := bc4 BK1))
 (try simp only [Act.put, List.setIfInBounds_toArray, List.set_cons_zero, List.set_cons_succ])
 go_cut [7] (fun v7 wc => ∃ (kq : Nat) (x7_1 : Bool), v7 = .bool x7_1 ∧ Aside0 (q21z.j0 kq a0_0 x7_1 a0_0 a0_1 l0_2 l0_3 = some r) ∧ Aside0 (kq ≤ k) ∧ Aside0 (wc.heap[gb1]? = some (.cells #[.int .i64 a0_0, .int .u32 a0_1, (.slice A0_2 l0_2.length c0_2), (.slice A0_3 l0_3.length c0_3)] 26 (0, 0))) ∧ Aside0 (Below w.heap.size w wc))
 case first =>
  have H := HC2.out
  clear HC2
  by_cases c5 : a0_0 = 1
  ·
   rw [if_pos c5] at H
   have c5b0 : (a0_0 == 1) = true := beq_iff_eq.mpr c5
   have c5b1 : (a0_0 != 1) = false := bne_eq_false_iff_eq.mpr c5
   clear c5
   (first | rw [c5b0] | (simp only [i64_w, i32_w, IntKind.wrap_u32]; rw [c5b0]) | skip)
   have H' := Aside0.mk H
   clear H
   go_wp2
   go_meet
   case rel => exact ⟨_, ((a0_0 == 1)), (by first | rfl | (simp; done) | (simp [*]; done)), H', ⟨by first | omega | exact Nat.le_refl _⟩, ⟨by (with_reducible repeat (first | refine blk_drewN ?_ _ | refine blk_drew ?_ | refine blk_alloc ?_ _)); exact BK1.out⟩, ⟨hbW HB⟩⟩
  ·
   rw [if_neg c5] at H
   have c5b0 : (a0_0 == 1) = false := beq_eq_false_iff_ne.mpr c5
   have c5b1 : (a0_0 != 1) = true := bne_iff_ne.mpr c5
   (first | rw [c5b0] | (simp only [i64_w, i32_w, IntKind.wrap_u32]; rw [c5b0]) | skip)
   by_cases c6 : a0_0 = 2
   ·
    rw [if_pos c6] at H
    have c6b0 : (a0_0 == 2) = true := beq_iff_eq.mpr c6
    have c6b1 : (a0_0 != 2) = false := bne_eq_false_iff_eq.mpr c6
    clear c6
    have H' := Aside0.mk H
    clear H
    go_wp2
    go_meet
    case rel => exact ⟨_, ((a0_0 == 2)), (by first | rfl | (simp; done) | (simp [*]; done)), H', ⟨by first | omega | exact Nat.le_refl _⟩, ⟨by (with_reducible repeat (first | refine blk_drewN ?_ _ | refine blk_drew ?_ | refine blk_alloc ?_ _)); exact BK1.out⟩, ⟨hbW HB⟩⟩
   ·
    rw [if_neg c6] at H
    have c6b0 : (a0_0 == 2) = false := beq_eq_false_iff_ne.mpr c6
    have c6b1 : (a0_0 != 2) = true := bne_iff_ne.mpr c6
    have H' := Aside0.mk H
    clear H
    go_wp2
    go_meet
    case rel => exact ⟨_, ((a0_0 == 4)), (by first | rfl | (simp; done) | (simp [*]; done)), H', ⟨by first | omega | exact Nat.le_refl _⟩, ⟨by (with_reducible repeat (first | refine blk_drewN ?_ _ | refine blk_drew ?_ | refine blk_alloc ?_ _)); exact BK1.out⟩, ⟨hbW HB⟩⟩
 case rest =>
  clear HC2
  try clear c1
  try clear p2
  try clear c5
  try clear c5b0
  try clear c5b1
  try clear c6
  try clear c6b0
  try clear c6b1
  try clear hcz4_0 hcz4_1 hcz4_2 hcz4_3
  try clear hfz4_0 hfz4_1 hfz4_2 hfz4_3
  obtain ⟨kq, x7_1, rfl, HA, HJ1, BK1, HB⟩ := hcut
  cases kq with
  | zero => exact absurd HA.out (by simp [q21z.j0])
  | succ kj1 =>
   have H := HA.out
   clear HA
   simp only [q21z.j0] at H
   by_cases c7 : x7_1 = true
   ·
    subst c7
    have H1 : (some true) = some r := by rw [if_pos rfl] at H; exact H
    clear H
    have H := H1
    clear H1
    obtain rfl := Option.some.inj H
    go_wp2
    go_ret
    exact ⟨by first | rfl | (simp [errW_none, errW_some] <;> rfl) | (simp [*, errW_none, errW_some] <;> rfl), hbW HB⟩
   ·
    replace c7 := Bool.eq_false_iff.mpr c7
    subst c7
    have H1 : (if a0_0 = 3 then (some (decide (a0_1 ≤ 2))) else (if a0_0 = 5 then (q21z.l0 kj1 l0_2 (l0_2.length : Int) 0 a0_0 a0_1 l0_2 l0_3) else (if a0_0 = 6 then (q21z.j2 kj1 a0_0 (a0_0 == 6) a0_0 a0_1 l0_2 l0_3) else (q21z.j2 kj1 a0_0 (a0_0 == 7) a0_0 a0_1 l0_2 l0_3)))) = some r := by rw [if_neg (show ¬ (false = true) by decide)] at H; exact H
    clear H
    have H := H1
    clear H1
    by_cases c8 : a0_0 = 3
    ·
     rw [if_pos c8] at H
     have c8b0 : (a0_0 == 3) = true := beq_iff_eq.mpr c8
     have c8b1 : (a0_0 != 3) = false := bne_eq_false_iff_eq.mpr c8
     clear c8
     obtain rfl := Option.some.inj H
     obtain ⟨hcz9_0, hcz9_1, hcz9_2, hcz9_3, hfz9_0, hfz9_1, hfz9_2, hfz9_3⟩ := bc4 BK1
     go_wp2
     go_ret
     exact ⟨by first | rfl | (simp [errW_none, errW_some] <;> rfl) | (simp [*, errW_none, errW_some] <;> rfl), hbW HB⟩
    ·
     rw [if_neg c8] at H
     have c8b0 : (a0_0 == 3) = false := beq_eq_false_iff_ne.mpr c8
     have c8b1 : (a0_0 != 3) = true := bne_iff_ne.mpr c8
     by_cases c10 : a0_0 = 5
     ·
      rw [if_pos c10] at H
      have c10b0 : (a0_0 == 5) = true := beq_iff_eq.mpr c10
      have c10b1 : (a0_0 != 5) = false := bne_eq_false_iff_eq.mpr c10
      clear c10
      have H' := Aside0.mk H
      clear H
      obtain ⟨hcz11_0, hcz11_1, hcz11_2, hcz11_3, hfz11_0, hfz11_1, hfz11_2, hfz11_3⟩ := bc4 BK1
      go_wp2
      go_loopg [21] kj1 (fun kq v21 w' => ∃ (x21_2 : Int), v21 = .int .i64 x21_2 ∧ Aside0 (q21z.l0 kq l0_2 (l0_2.length : Int) x21_2 a0_0 a0_1 l0_2 l0_3 = some r) ∧ Aside0 (kq ≤ kj1) ∧ Aside0 (w'.heap[gb1]? = some (.cells #[.int .i64 a0_0, .int .u32 a0_1, (.slice A0_2 l0_2.length c0_2), (.slice A0_3 l0_3.length c0_3)] 26 (0, 0))) ∧ Aside0 (Below w.heap.size w w'))
      case atStart => exact ⟨(0), (by first | rfl | (simp; done) | (simp [*]; done)), H', ⟨Nat.le_refl _⟩, ⟨by (with_reducible repeat (first | refine blk_drewN ?_ _ | refine blk_drew ?_ | refine blk_alloc ?_ _)); exact BK1.out⟩, ⟨hbW HB⟩⟩
      case round =>
       clear H'
       try clear c1
       try clear p2
       try clear c5
       try clear c5b0
       try clear c5b1
       try clear c6
       try clear c6b0
       try clear c6b1
       try clear c7
       try clear c8
       try clear c8b0
       try clear c8b1
       try clear c10
       try clear c10b0
       try clear c10b1
       try clear hcz4_0 hcz4_1 hcz4_2 hcz4_3
       try clear hfz4_0 hfz4_1 hfz4_2 hfz4_3
       try clear p2
       obtain ⟨x21_2, rfl, HA, HK2, BK1, HB⟩ := hrel
       cases gk with
       | zero => exact absurd HA.out (by simp [q21z.l0])
       | succ k2 =>
        have H := HA.out
        clear HA
        simp only [q21z.l0] at H
        by_cases c12 : x21_2 < (l0_2.length : Int)
        ·
         rw [if_pos c12] at H
         have c12b0 : decide (x21_2 < (l0_2.length : Int)) = true := decide_eq_true c12
         clear c12
         by_cases c13 : 0 ≤ x21_2
         ·
          rw [if_pos c13] at H
          have c13b0 : decide (0 ≤ x21_2) = true := decide_eq_true c13
          clear c13
          by_cases c14 : x21_2 < (l0_2.length : Int)
          ·
           rw [if_pos c14] at H
           have c14b0 : decide (x21_2 < (l0_2.length : Int)) = true := decide_eq_true c14
           clear c14
           by_cases c15 : (rd l0_2 x21_2) = 0
           ·
            rw [if_pos c15] at H
            have c15b0 : ((rd l0_2 x21_2) == 0) = true := beq_iff_eq.mpr c15
            have c15b1 : ((rd l0_2 x21_2) != 0) = false := bne_eq_false_iff_eq.mpr c15
            clear c15
            obtain rfl := Option.some.inj H
            have p2 : 0 ≤ (x21_2 : Int) := of_decide_eq_true (by first | (with_reducible assumption) | assumption)
            have q2 : x21_2 < (l0_2.length : Int) := of_decide_eq_true (by first | (with_reducible assumption) | assumption)
            obtain ⟨ad2, e2, hx2_0⟩ := Kd.at_int HR0_2.out x21_2 p2 q2
            cases e2
            replace hx2_0 := (HB.out.cell (World.block_lt_of_cell? w _ hx2_0)).trans hx2_0
            replace p2 := eq_true p2
            replace q2 := eq_true q2
            go_wp2
            go_ret
            exact ⟨by first | rfl | (simp [errW_none, errW_some] <;> rfl) | (simp [*, errW_none, errW_some] <;> rfl), hbW HB⟩
           ·
            rw [if_neg c15] at H
            have c15b0 : ((rd l0_2 x21_2) == 0) = false := beq_eq_false_iff_ne.mpr c15
            have c15b1 : ((rd l0_2 x21_2) != 0) = true := bne_iff_ne.mpr c15
            have H' := Aside0.mk H
            clear H
            have p2 : 0 ≤ (x21_2 : Int) := of_decide_eq_true (by first | (with_reducible assumption) | assumption)
            have q2 : x21_2 < (l0_2.length : Int) := of_decide_eq_true (by first | (with_reducible assumption) | assumption)
            obtain ⟨ad2, e2, hx2_0⟩ := Kd.at_int HR0_2.out x21_2 p2 q2
            cases e2
            replace hx2_0 := (HB.out.cell (World.block_lt_of_cell? w _ hx2_0)).trans hx2_0
            replace p2 := eq_true p2
            replace q2 := eq_true q2
            go_wp2
            go_roundg k2
            case measure => have := HJ1.out; have := HK2.out; omega
            case rel => exact ⟨(wrap64 (x21_2 + 1)), (by first | rfl | (simp; done) | (simp [*]; done)), H', ⟨by have := HJ1.out; have := HK2.out; omega⟩, ⟨by (with_reducible repeat (first | refine blk_drewN ?_ _ | refine blk_drew ?_ | refine blk_alloc ?_ _)); exact BK1.out⟩, ⟨hbW HB⟩⟩
          ·
           rw [if_neg c14] at H
           exact absurd H (by simp)
         ·
          rw [if_neg c13] at H
          exact absurd H (by simp)
        ·
         rw [if_neg c12] at H
         have c12b0 : decide (x21_2 < (l0_2.length : Int)) = false := decide_eq_false c12
         clear c12
         obtain rfl := Option.some.inj H
         obtain ⟨hcz16_0, hcz16_1, hcz16_2, hcz16_3, hfz16_0, hfz16_1, hfz16_2, hfz16_3⟩ := bc4 BK1
         go_wp2
         go_ret
         exact ⟨by first | rfl | (simp [errW_none, errW_some] <;> rfl) | (simp [*, errW_none, errW_some] <;> rfl), hbW HB⟩
     ·
      rw [if_neg c10] at H
      have c10b0 : (a0_0 == 5) = false := beq_eq_false_iff_ne.mpr c10
      have c10b1 : (a0_0 != 5) = true := bne_iff_ne.mpr c10
      have HC17 := Aside0.mk H
      clear H
      go_upto_if 32 with (fail)
      go_cut [32] (fun v32 wc => ∃ (kq : Nat) (x32_16 : Bool), v32 = .bool x32_16 ∧ Aside0 (q21z.j2 kq a0_0 x32_16 a0_0 a0_1 l0_2 l0_3 = some r) ∧ Aside0 (kq ≤ kj1) ∧ Aside0 (wc.heap[gb1]? = some (.cells #[.int .i64 a0_0, .int .u32 a0_1, (.slice A0_2 l0_2.length c0_2), (.slice A0_3 l0_3.length c0_3)] 26 (0, 0))) ∧ Aside0 (Below w.heap.size w wc))
      case first =>
       have H := HC17.out
       clear HC17
       by_cases c18 : a0_0 = 6
       ·
        rw [if_pos c18] at H
        have c18b0 : (a0_0 == 6) = true := beq_iff_eq.mpr c18
        have c18b1 : (a0_0 != 6) = false := bne_eq_false_iff_eq.mpr c18
        clear c18
        (first | rw [c18b0] | (simp only [i64_w, i32_w, IntKind.wrap_u32]; rw [c18b0]) | skip)
        have H' := Aside0.mk H
        clear H
        go_wp2
        go_meet
        case rel => exact ⟨_, ((a0_0 == 6)), (by first | rfl | (simp; done) | (simp [*]; done)), H', ⟨by have := HJ1.out; first | omega | exact Nat.le_refl _⟩, ⟨by (with_reducible repeat (first | refine blk_drewN ?_ _ | refine blk_drew ?_ | refine blk_alloc ?_ _)); exact BK1.out⟩, ⟨hbW HB⟩⟩
       ·
        rw [if_neg c18] at H
        have c18b0 : (a0_0 == 6) = false := beq_eq_false_iff_ne.mpr c18
        have c18b1 : (a0_0 != 6) = true := bne_iff_ne.mpr c18
        (first | rw [c18b0] | (simp only [i64_w, i32_w, IntKind.wrap_u32]; rw [c18b0]) | skip)
        have H' := Aside0.mk H
        clear H
        go_wp2
        go_meet
        case rel => exact ⟨_, ((a0_0 == 7)), (by first | rfl | (simp; done) | (simp [*]; done)), H', ⟨by have := HJ1.out; first | omega | exact Nat.le_refl _⟩, ⟨by (with_reducible repeat (first | refine blk_drewN ?_ _ | refine blk_drew ?_ | refine blk_alloc ?_ _)); exact BK1.out⟩, ⟨hbW HB⟩⟩
      case rest =>
       clear HC17
       try clear c1
       try clear p2
       try clear q2
       try clear hx2
       try clear c5
       try clear c5b0
       try clear c5b1
       try clear c6
       try clear c6b0
       try clear c6b1
       try clear p6
       try clear c7
       try clear c8
       try clear c8b0
       try clear c8b1
       try clear c10
       try clear c10b0
       try clear c10b1
       try clear c12
       try clear c12b0
       try clear c13
       try clear c13b0
       try clear c14
       try clear c14b0
       try clear c15
       try clear c15b0
       try clear c15b1
       try clear c18
       try clear c18b0
       try clear c18b1
       try clear hcz11_0 hcz11_1 hcz11_2 hcz11_3
       try clear hcz16_0 hcz16_1 hcz16_2 hcz16_3
       try clear hcz4_0 hcz4_1 hcz4_2 hcz4_3
       try clear hcz9_0 hcz9_1 hcz9_2 hcz9_3
       try clear hfz11_0 hfz11_1 hfz11_2 hfz11_3
       try clear hfz16_0 hfz16_1 hfz16_2 hfz16_3
       try clear hfz4_0 hfz4_1 hfz4_2 hfz4_3
       try clear hfz9_0 hfz9_1 hfz9_2 hfz9_3
       try clear hx2_0
       try clear p2
       try clear q2
       obtain ⟨kq, x32_16, rfl, HA, HJ16, BK1, HB⟩ := hcut
       cases kq with
       | zero => exact absurd HA.out (by simp [q21z.j2])
       | succ kj16 =>
        have H := HA.out
        clear HA
        simp only [q21z.j2] at H
        by_cases c19 : x32_16 = true
        ·
         subst c19
         have H1 : (some (decide ((l0_2.length : Int) ≤ 64))) = some r := by rw [if_pos rfl] at H; exact H
         clear H
         have H := H1
         clear H1
         obtain rfl := Option.some.inj H
         obtain ⟨hcz20_0, hcz20_1, hcz20_2, hcz20_3, hfz20_0, hfz20_1, hfz20_2, hfz20_3⟩ := bc4 BK1
         go_wp2
         go_ret
         exact ⟨by first | rfl | (simp [errW_none, errW_some] <;> rfl) | (simp [*, errW_none, errW_some] <;> rfl), hbW HB⟩
        ·
         replace c19 := Bool.eq_false_iff.mpr c19
         subst c19
         have H1 : (if a0_0 = 8 then ((q20z.f kj16 l0_3).bind fun t3 => (some t3)) else (some false)) = some r := by rw [if_neg (show ¬ (false = true) by decide)] at H; exact H
         clear H
         have H := H1
         clear H1
         by_cases c21 : a0_0 = 8
         ·
          rw [if_pos c21] at H
          have c21b0 : (a0_0 == 8) = true := beq_iff_eq.mpr c21
          have c21b1 : (a0_0 != 8) = false := bne_eq_false_iff_eq.mpr c21
          clear c21
          replace H := Option.bind_eq_some_iff.mp H
          obtain ⟨t3, A220, H⟩ := H
          replace H : (some t3) = some r := H
          have A22 := Aside0.mk A220
          clear A220
          obtain rfl := Option.some.inj H
          obtain ⟨hcz23_0, hcz23_1, hcz23_2, hcz23_3, hfz23_0, hfz23_1, hfz23_2, hfz23_3⟩ := bc4 BK1
          go_wp2_with (first | ((with_reducible refine gate_callee (f := 34) rfl ?_); refine goesL_ (some 43) rfl rfl Try.func34 (by kernel_rfl) rfl #[.slice A0_3 l0_3.length c0_3] rfl (by (try simp only [List.map_toArray, List.map_cons, List.map_nil]); first | done | rfl | (simp only [List.length_drop, List.length_take]; rfl)) ?_; (with_reducible refine (q20z.calls kj16 _ _ l0_3 t3 _ ?side1 ?side2 A22.out).mono ?_); (case side1 => repeat (first | exact (Kd.C_below HR0_3.out HB.out) | (with_reducible refine Kd.C_alloc ?_ _) | (with_reducible refine Kd.C_drewN ?_ _) | (with_reducible refine Kd.C_drew ?_))); (case side2 => exact HC0_3.out); rintro e w24 ⟨rfl, hb⟩; refine ⟨_, rfl, ?_⟩; replace BK1 := bkB BK1 hb; replace HB := hbS HB hb; (try clear hb)))
          go_ret
          exact ⟨by first | rfl | (simp [errW_none, errW_some] <;> rfl) | (simp [*, errW_none, errW_some] <;> rfl), hbW HB⟩
         ·
          rw [if_neg c21] at H
          have c21b0 : (a0_0 == 8) = false := beq_eq_false_iff_ne.mpr c21
          have c21b1 : (a0_0 != 8) = true := bne_iff_ne.mpr c21
          obtain rfl := Option.some.inj H
          go_wp2
          go_ret
          exact ⟨by first | rfl | (simp [errW_none, errW_some] <;> rfl) | (simp [*, errW_none, errW_some] <;> rfl), hbW HB⟩

/-! ### dragomanref03_Sorted: function 37 -/
mutual
def q22z.l0 : Nat → List Int → List Int → Int → Int → Option (List Int)
 | 0, _, _, _, _ => none
 | k + 1, x3, x8, x9, x10 => if x10 < x9 then (if 0 ≤ x10 then (if x10 < (x8.length : Int) then (q22z.l1 k x3 (rd x8 x10) 0 x8 x9 x10) else (none)) else (none)) else (some x3)
def q22z.j2 : Nat → List Int → Int → Int → List Int → Int → Int → Option (List Int)
 | 0, _, _, _, _, _, _ => none
 | k + 1, x3, x5, x6, x8, x9, x10 => if x6 < (x3.length : Int) then (if 0 ≤ x6 then (q22z.j3 k x3 x5 x6 x8 x9 x10 ((rd x3 x6) == x5)) else (none)) else (q22z.j3 k x3 x5 x6 x8 x9 x10 false)
def q22z.j3 : Nat → List Int → Int → Int → List Int → Int → Int → Bool → Option (List Int)
 | 0, _, _, _, _, _, _, _ => none
 | k + 1, x3, x5, x6, x8, x9, x10, x39 => if x39 = true then (q22z.l0 k x3 x8 x9 (wrap64 (x10 + 1))) else (if x3.length < 35184372088832 then ((some (x3 ++ [0] : List Int)).bind fun y4 => (q22z.l2 k y4 x5 x6 (wrap64 ((y4.length : Int) - 1)) x8 x9 x10)) else (none))
def q22z.l2 : Nat → List Int → Int → Int → Int → List Int → Int → Int → Option (List Int)
 | 0, _, _, _, _, _, _, _ => none
 | k + 1, x3, x5, x6, x7, x8, x9, x10 => if x7 > x6 then (if 0 ≤ (wrap64 (x7 - 1)) then (if (wrap64 (x7 - 1)) < (x3.length : Int) then (if 0 ≤ x7 then (if x7 < (x3.length : Int) then (q22z.l2 k (x3.set (x7 : Int).toNat (rd x3 (wrap64 (x7 - 1)))) x5 x6 (wrap64 (x7 - 1)) x8 x9 x10) else (none)) else (none)) else (none)) else (none)) else (if 0 ≤ x6 then (if x6 < (x3.length : Int) then (q22z.l0 k (x3.set (x6 : Int).toNat x5) x8 x9 (wrap64 (x10 + 1))) else (none)) else (none))
def q22z.l1 : Nat → List Int → Int → Int → List Int → Int → Int → Option (List Int)
 | 0, _, _, _, _, _, _ => none
 | k + 1, x3, x5, x6, x8, x9, x10 => if x6 < (x3.length : Int) then (if 0 ≤ x6 then (if (rd x3 x6) < x5 then (q22z.l1 k x3 x5 (wrap64 (x6 + 1)) x8 x9 x10) else (q22z.j2 k x3 x5 x6 x8 x9 x10)) else (none)) else (q22z.j2 k x3 x5 x6 x8 x9 x10)
end
def q22z.f (k : Nat) (l0 : List Int) : Option (List Int) := q22z.l0 k ([] : List Int) l0 (l0.length : Int) 0
theorem q22z.mono_l : ∀ k, (∀ y0 y1 y2 y3, LeO (q22z.l0 k y0 y1 y2 y3) (q22z.l0 (k + 1) y0 y1 y2 y3)) ∧ (∀ y0 y1 y2 y3 y4 y5, LeO (q22z.j2 k y0 y1 y2 y3 y4 y5) (q22z.j2 (k + 1) y0 y1 y2 y3 y4 y5)) ∧ (∀ y0 y1 y2 y3 y4 y5 y6, LeO (q22z.j3 k y0 y1 y2 y3 y4 y5 y6) (q22z.j3 (k + 1) y0 y1 y2 y3 y4 y5 y6)) ∧ (∀ y0 y1 y2 y3 y4 y5 y6, LeO (q22z.l2 k y0 y1 y2 y3 y4 y5 y6) (q22z.l2 (k + 1) y0 y1 y2 y3 y4 y5 y6)) ∧ (∀ y0 y1 y2 y3 y4 y5, LeO (q22z.l1 k y0 y1 y2 y3 y4 y5) (q22z.l1 (k + 1) y0 y1 y2 y3 y4 y5))
 | 0 => ⟨fun _ _ _ _ r h => by simp [q22z.l0] at h, fun _ _ _ _ _ _ r h => by simp [q22z.j2] at h, fun _ _ _ _ _ _ _ r h => by simp [q22z.j3] at h, fun _ _ _ _ _ _ _ r h => by simp [q22z.l2] at h, fun _ _ _ _ _ _ r h => by simp [q22z.l1] at h⟩
 | k + 1 => by
  obtain ⟨ih0, ih1, ih2, ih3, ih4⟩ := q22z.mono_l k
  refine ⟨?_, ?_, ?_, ?_, ?_⟩
  ·
   intro y0 y1 y2 y3
   unfold q22z.l0
   repeat' first
   | (with_reducible exact ih0 _ _ _ _)
   | (with_reducible exact ih1 _ _ _ _ _ _)
   | (with_reducible exact ih2 _ _ _ _ _ _ _)
   | (with_reducible exact ih3 _ _ _ _ _ _ _)
   | (with_reducible exact ih4 _ _ _ _ _ _)
   | (with_reducible exact LeO.refl _)
   | (with_reducible exact LeO.none _)
   | (with_reducible refine LeO.ite ?_ ?_)
   | (with_reducible refine LeO.bind ?_ (fun _ => ?_))
   | exact ih0 _ _ _ _
   | exact ih1 _ _ _ _ _ _
   | exact ih2 _ _ _ _ _ _ _
   | exact ih3 _ _ _ _ _ _ _
   | exact ih4 _ _ _ _ _ _
   | exact LeO.none _
   | refine LeO.ite ?_ ?_
   | refine LeO.bind ?_ (fun _ => ?_)
  ·
   intro y0 y1 y2 y3 y4 y5
   unfold q22z.j2
   repeat' first
   | (with_reducible exact ih0 _ _ _ _)
   | (with_reducible exact ih1 _ _ _ _ _ _)
   | (with_reducible exact ih2 _ _ _ _ _ _ _)
   | (with_reducible exact ih3 _ _ _ _ _ _ _)
   | (with_reducible exact ih4 _ _ _ _ _ _)
   | (with_reducible exact LeO.refl _)
   | (with_reducible exact LeO.none _)
   | (with_reducible refine LeO.ite ?_ ?_)
   | (with_reducible refine LeO.bind ?_ (fun _ => ?_))
   | exact ih0 _ _ _ _
   | exact ih1 _ _ _ _ _ _
   | exact ih2 _ _ _ _ _ _ _
   | exact ih3 _ _ _ _ _ _ _
   | exact ih4 _ _ _ _ _ _
   | exact LeO.none _
   | refine LeO.ite ?_ ?_
   | refine LeO.bind ?_ (fun _ => ?_)
  ·
   intro y0 y1 y2 y3 y4 y5 y6
   unfold q22z.j3
   repeat' first
   | (with_reducible exact ih0 _ _ _ _)
   | (with_reducible exact ih1 _ _ _ _ _ _)
   | (with_reducible exact ih2 _ _ _ _ _ _ _)
   | (with_reducible exact ih3 _ _ _ _ _ _ _)
   | (with_reducible exact ih4 _ _ _ _ _ _)
   | (with_reducible exact LeO.refl _)
   | (with_reducible exact LeO.none _)
   | (with_reducible refine LeO.ite ?_ ?_)
   | (with_reducible refine LeO.bind ?_ (fun _ => ?_))
   | exact ih0 _ _ _ _
   | exact ih1 _ _ _ _ _ _
   | exact ih2 _ _ _ _ _ _ _
   | exact ih3 _ _ _ _ _ _ _
   | exact ih4 _ _ _ _ _ _
   | exact LeO.none _
   | refine LeO.ite ?_ ?_
   | refine LeO.bind ?_ (fun _ => ?_)
  ·
   intro y0 y1 y2 y3 y4 y5 y6
   unfold q22z.l2
   repeat' first
   | (with_reducible exact ih0 _ _ _ _)
   | (with_reducible exact ih1 _ _ _ _ _ _)
   | (with_reducible exact ih2 _ _ _ _ _ _ _)
   | (with_reducible exact ih3 _ _ _ _ _ _ _)
   | (with_reducible exact ih4 _ _ _ _ _ _)
   | (with_reducible exact LeO.refl _)
   | (with_reducible exact LeO.none _)
   | (with_reducible refine LeO.ite ?_ ?_)
   | (with_reducible refine LeO.bind ?_ (fun _ => ?_))
   | exact ih0 _ _ _ _
   | exact ih1 _ _ _ _ _ _
   | exact ih2 _ _ _ _ _ _ _
   | exact ih3 _ _ _ _ _ _ _
   | exact ih4 _ _ _ _ _ _
   | exact LeO.none _
   | refine LeO.ite ?_ ?_
   | refine LeO.bind ?_ (fun _ => ?_)
  ·
   intro y0 y1 y2 y3 y4 y5
   unfold q22z.l1
   repeat' first
   | (with_reducible exact ih0 _ _ _ _)
   | (with_reducible exact ih1 _ _ _ _ _ _)
   | (with_reducible exact ih2 _ _ _ _ _ _ _)
   | (with_reducible exact ih3 _ _ _ _ _ _ _)
   | (with_reducible exact ih4 _ _ _ _ _ _)
   | (with_reducible exact LeO.refl _)
   | (with_reducible exact LeO.none _)
   | (with_reducible refine LeO.ite ?_ ?_)
   | (with_reducible refine LeO.bind ?_ (fun _ => ?_))
   | exact ih0 _ _ _ _
   | exact ih1 _ _ _ _ _ _
   | exact ih2 _ _ _ _ _ _ _
   | exact ih3 _ _ _ _ _ _ _
   | exact ih4 _ _ _ _ _ _
   | exact LeO.none _
   | refine LeO.ite ?_ ?_
   | refine LeO.bind ?_ (fun _ => ?_)
theorem q22z.mono : ∀ a0 k, LeO (q22z.f k a0) (q22z.f (k + 1) a0) := by
 intro a0 k
 obtain ⟨ih0, ih1, ih2, ih3, ih4⟩ := q22z.mono_l k
 unfold q22z.f
 repeat' first
   | (with_reducible exact ih0 _ _ _ _)
   | (with_reducible exact ih1 _ _ _ _ _ _)
   | (with_reducible exact ih2 _ _ _ _ _ _ _)
   | (with_reducible exact ih3 _ _ _ _ _ _ _)
   | (with_reducible exact ih4 _ _ _ _ _ _)
   | (with_reducible exact LeO.refl _)
   | (with_reducible exact LeO.none _)
   | (with_reducible refine LeO.ite ?_ ?_)
   | (with_reducible refine LeO.bind ?_ (fun _ => ?_))
   | exact ih0 _ _ _ _
   | exact ih1 _ _ _ _ _ _
   | exact ih2 _ _ _ _ _ _ _
   | exact ih3 _ _ _ _ _ _ _
   | exact ih4 _ _ _ _ _ _
   | exact LeO.none _
   | refine LeO.ite ?_ ?_
   | refine LeO.bind ?_ (fun _ => ?_)
set_option maxHeartbeats 8000000 in
set_option maxRecDepth 100000 in
theorem q22z.calls (k : Nat) (A0 : Option Addr) (c0 : Nat) (l0 : List Int) (r : List Int) (w : World) (hr0 : Kd.C (Kd.int .u32) w A0 l0.length l0) (hc0 : l0.length ≤ c0) (h : q22z.f k l0 = some r) :
  Calls Try.prog 37 #[.slice A0 l0.length c0] w fun e w' => ∃ v0_ : Value, e = .returned (v0_) ∧ Kd.R (Kd.int .u32) 22 w' w.heap.size (fun _ => True) v0_ r ∧ Below w.heap.size w w' := by
 have HR0 := Aside0.mk hr0
 have HC0 := Aside0.mk hc0
 clear hr0 hc0
 have HB := Aside0.mk (Below.refl w.heap.size w)
 have H : (q22z.l0 k ([] : List Int) l0 (l0.length : Int) 0) = some r := h
 clear h
 have H' := Aside0.mk H
 clear H
 go_enter Try.func37, Try.ntmps37
 go_wp2
 go_loopg [3, 10] k (fun kq v3 v10 w' => ∃ (x3_1 : List Int) (x10_1 : Int), v10 = .int .i64 x10_1 ∧ Aside0 (q22z.l0 kq x3_1 l0 (l0.length : Int) x10_1 = some r) ∧ Aside0 (kq ≤ k) ∧ Aside0 (Kd.R (Kd.int .u32) 22 w' w.heap.size (fun _ => True) v3 x3_1) ∧ Aside0 (Below w.heap.size w w'))
 case atStart => exact ⟨(([] : List Int)), (0), (by first | rfl | (simp; done) | (simp [*]; done)), H', ⟨Nat.le_refl _⟩, ⟨by first | exact Kd.R_nil _ _ _ _ _ | exact Kd.N_nil _ _ _ _ _ | exact Kd.V_nil _ _ _ _ _ | exact Kd.Q_nil _ _ _ _ _ | exact Kd.S_nil _ _ _ _ _⟩, ⟨hbW HB⟩⟩
 case round =>
  clear H'
  obtain ⟨x3_1, x10_1, rfl, HA, HK1, HO_3, HB⟩ := hrel
  cases gk with
  | zero => exact absurd HA.out (by simp [q22z.l0])
  | succ k1 =>
   have H := HA.out
   clear HA
   simp only [q22z.l0] at H
   by_cases c2 : x10_1 < (l0.length : Int)
   ·
    rw [if_pos c2] at H
    have c2b0 : decide (x10_1 < (l0.length : Int)) = true := decide_eq_true c2
    clear c2
    by_cases c3 : 0 ≤ x10_1
    ·
     rw [if_pos c3] at H
     have c3b0 : decide (0 ≤ x10_1) = true := decide_eq_true c3
     clear c3
     by_cases c4 : x10_1 < (l0.length : Int)
     ·
      rw [if_pos c4] at H
      have c4b0 : decide (x10_1 < (l0.length : Int)) = true := decide_eq_true c4
      clear c4
      have HC5 := Aside0.mk H
      clear H
      have p1 : 0 ≤ (x10_1 : Int) := of_decide_eq_true (by first | (with_reducible assumption) | assumption)
      have q1 : x10_1 < (l0.length : Int) := of_decide_eq_true (by first | (with_reducible assumption) | assumption)
      obtain ⟨ad1, e1, hx1_0⟩ := Kd.at_int HR0.out x10_1 p1 q1
      cases e1
      replace hx1_0 := (HB.out.cell (World.block_lt_of_cell? w _ hx1_0)).trans hx1_0
      replace p1 := eq_true p1
      replace q1 := eq_true q1
      go_upto_block 2 with (fail)
      go_cut [6] (fun v6 wc => ∃ (kq : Nat) (x6_4 : Int), v6 = .int .i64 x6_4 ∧ Aside0 (q22z.j2 kq x3_1 (rd l0 x10_1) x6_4 l0 (l0.length : Int) x10_1 = some r) ∧ Aside0 (kq ≤ k1) ∧ Aside0 (Kd.R (Kd.int .u32) 22 wc w.heap.size (fun _ => True) u3 x3_1) ∧ Aside0 (Below w.heap.size w wc))
      case first =>
       have H := HC5.out
       clear HC5
       have H' := Aside0.mk H
       clear H
       go_wp2
       go_loopg [6] k1 (fun kq v6 w' => ∃ (x6_2 : Int), v6 = .int .i64 x6_2 ∧ Aside0 (q22z.l1 kq x3_1 (rd l0 x10_1) x6_2 l0 (l0.length : Int) x10_1 = some r) ∧ Aside0 (kq ≤ k1) ∧ Aside0 (Kd.R (Kd.int .u32) 22 w' w.heap.size (fun _ => True) u3 x3_1) ∧ Aside0 (Below w.heap.size w w'))
       case atStart => exact ⟨(0), (by first | rfl | (simp; done) | (simp [*]; done)), H', ⟨Nat.le_refl _⟩, ⟨by (with_reducible repeat (first | apply Kd.R_alloc | apply Kd.R_drewN | apply Kd.R_drew)); exact HO_3.out⟩, ⟨hbW HB⟩⟩
       case round =>
        clear H'
        try clear p1
        try clear q1
        try clear hx1
        try clear c2
        try clear c2b0
        try clear p2
        try clear c3
        try clear c3b0
        try clear c4
        try clear c4b0
        try clear hx1_0
        try clear p1
        try clear q1
        obtain ⟨x6_2, rfl, HA, HK2, HO_3, HB⟩ := hrel
        cases gk with
        | zero => exact absurd HA.out (by simp [q22z.l1])
        | succ k2 =>
         have H := HA.out
         clear HA
         simp only [q22z.l1] at H
         by_cases c6 : x6_2 < (x3_1.length : Int)
         ·
          rw [if_pos c6] at H
          have c6b0 : decide (x6_2 < (x3_1.length : Int)) = true := decide_eq_true c6
          clear c6
          (first | rw [c6b0] | (simp only [i64_w, i32_w, IntKind.wrap_u32]; rw [c6b0]) | skip)
          by_cases c7 : 0 ≤ x6_2
          ·
           rw [if_pos c7] at H
           have c7b0 : decide (0 ≤ x6_2) = true := decide_eq_true c7
           clear c7
           by_cases c8 : (rd x3_1 x6_2) < (rd l0 x10_1)
           ·
            rw [if_pos c8] at H
            have c8b0 : decide ((rd x3_1 x6_2) < (rd l0 x10_1)) = true := decide_eq_true c8
            clear c8
            have H' := Aside0.mk H
            clear H
            obtain ⟨Ao9, co9, eo9⟩ := Kd.R_slice HO_3.out
            subst eo9
            have p2 : 0 ≤ (x6_2 : Int) := of_decide_eq_true (by first | (with_reducible assumption) | assumption)
            have q2 : x6_2 < (x3_1.length : Int) := of_decide_eq_true (by first | (with_reducible assumption) | assumption)
            obtain ⟨ad2, e2, hx2_0⟩ := Kd.at_int (Kd.R_reads' HO_3.out).2.2 x6_2 p2 q2
            cases e2
            replace p2 := eq_true p2
            replace q2 := eq_true q2
            go_wp2
            go_roundg k2
            case measure => have := HK1.out; have := HK2.out; omega
            case rel => exact ⟨(wrap64 (x6_2 + 1)), (by first | rfl | (simp; done) | (simp [*]; done)), H', ⟨by have := HK1.out; have := HK2.out; omega⟩, ⟨by (with_reducible repeat (first | apply Kd.R_alloc | apply Kd.R_drewN | apply Kd.R_drew)); exact HO_3.out⟩, ⟨hbW HB⟩⟩
           ·
            rw [if_neg c8] at H
            have c8b0 : decide ((rd x3_1 x6_2) < (rd l0 x10_1)) = false := decide_eq_false c8
            clear c8
            have H' := Aside0.mk H
            clear H
            obtain ⟨Ao10, co10, eo10⟩ := Kd.R_slice HO_3.out
            subst eo10
            have p2 : 0 ≤ (x6_2 : Int) := of_decide_eq_true (by first | (with_reducible assumption) | assumption)
            have q2 : x6_2 < (x3_1.length : Int) := of_decide_eq_true (by first | (with_reducible assumption) | assumption)
            obtain ⟨ad2, e2, hx2_0⟩ := Kd.at_int (Kd.R_reads' HO_3.out).2.2 x6_2 p2 q2
            cases e2
            replace p2 := eq_true p2
            replace q2 := eq_true q2
            go_wp2
            go_meet
            case rel => exact ⟨_, (x6_2), (by first | rfl | (simp; done) | (simp [*]; done)), H', ⟨by have := HK1.out; have := HK2.out; first | omega | exact Nat.le_refl _⟩, ⟨by (with_reducible repeat (first | apply Kd.R_alloc | apply Kd.R_drewN | apply Kd.R_drew)); exact HO_3.out⟩, ⟨hbW HB⟩⟩
          ·
           rw [if_neg c7] at H
           exact absurd H (by simp)
         ·
          rw [if_neg c6] at H
          have c6b0 : decide (x6_2 < (x3_1.length : Int)) = false := decide_eq_false c6
          clear c6
          (first | rw [c6b0] | (simp only [i64_w, i32_w, IntKind.wrap_u32]; rw [c6b0]) | skip)
          have H' := Aside0.mk H
          clear H
          obtain ⟨Ao11, co11, eo11⟩ := Kd.R_slice HO_3.out
          subst eo11
          go_wp2
          go_meet
          case rel => exact ⟨_, (x6_2), (by first | rfl | (simp; done) | (simp [*]; done)), H', ⟨by have := HK1.out; have := HK2.out; first | omega | exact Nat.le_refl _⟩, ⟨by (with_reducible repeat (first | apply Kd.R_alloc | apply Kd.R_drewN | apply Kd.R_drew)); exact HO_3.out⟩, ⟨hbW HB⟩⟩
      case rest =>
       clear HC5
       try clear p1
       try clear q1
       try clear hx1
       try clear c2
       try clear c2b0
       try clear p2
       try clear q2
       try clear hx2
       try clear c3
       try clear c3b0
       try clear c4
       try clear c4b0
       try clear c6
       try clear c6b0
       try clear p6
       try clear c7
       try clear c7b0
       try clear c8
       try clear c8b0
       try clear hx1_0
       try clear hx2_0
       try clear p1
       try clear p2
       try clear q1
       try clear q2
       obtain ⟨kq, x6_4, rfl, HA, HJ4, HO_3, HB⟩ := hcut
       cases kq with
       | zero => exact absurd HA.out (by simp [q22z.j2])
       | succ kj4 =>
        have H := HA.out
        clear HA
        simp only [q22z.j2] at H
        have HC12 := Aside0.mk H
        clear H
        go_upto_region 8 with (fail)
        go_cut [39] (fun v39 wc => ∃ (kq : Nat) (x39_11 : Bool), v39 = .bool x39_11 ∧ Aside0 (q22z.j3 kq x3_1 (rd l0 x10_1) x6_4 l0 (l0.length : Int) x10_1 x39_11 = some r) ∧ Aside0 (kq ≤ kj4) ∧ Aside0 (Kd.R (Kd.int .u32) 22 wc w.heap.size (fun _ => True) u3 x3_1) ∧ Aside0 (Below w.heap.size w wc))
        case first =>
         have H := HC12.out
         clear HC12
         by_cases c13 : x6_4 < (x3_1.length : Int)
         ·
          rw [if_pos c13] at H
          have c13b0 : decide (x6_4 < (x3_1.length : Int)) = true := decide_eq_true c13
          clear c13
          (first | rw [c13b0] | (simp only [i64_w, i32_w, IntKind.wrap_u32]; rw [c13b0]) | skip)
          by_cases c14 : 0 ≤ x6_4
          ·
           rw [if_pos c14] at H
           have c14b0 : decide (0 ≤ x6_4) = true := decide_eq_true c14
           clear c14
           have H' := Aside0.mk H
           clear H
           obtain ⟨Ao15, co15, eo15⟩ := Kd.R_slice HO_3.out
           subst eo15
           have p3 : 0 ≤ (x6_4 : Int) := of_decide_eq_true (by first | (with_reducible assumption) | assumption)
           have q3 : x6_4 < (x3_1.length : Int) := of_decide_eq_true (by first | (with_reducible assumption) | assumption)
           obtain ⟨ad3, e3, hx3_0⟩ := Kd.at_int (Kd.R_reads' HO_3.out).2.2 x6_4 p3 q3
           cases e3
           replace p3 := eq_true p3
           replace q3 := eq_true q3
           go_wp2
           go_meet
           case rel => exact ⟨_, (((rd x3_1 x6_4) == (rd l0 x10_1))), (by first | rfl | (simp; done) | (simp [*]; done)), H', ⟨by have := HK1.out; have := HJ4.out; first | omega | exact Nat.le_refl _⟩, ⟨by (with_reducible repeat (first | apply Kd.R_alloc | apply Kd.R_drewN | apply Kd.R_drew)); exact HO_3.out⟩, ⟨hbW HB⟩⟩
          ·
           rw [if_neg c14] at H
           exact absurd H (by simp)
         ·
          rw [if_neg c13] at H
          have c13b0 : decide (x6_4 < (x3_1.length : Int)) = false := decide_eq_false c13
          clear c13
          (first | rw [c13b0] | (simp only [i64_w, i32_w, IntKind.wrap_u32]; rw [c13b0]) | skip)
          have H' := Aside0.mk H
          clear H
          obtain ⟨Ao16, co16, eo16⟩ := Kd.R_slice HO_3.out
          subst eo16
          go_wp2
          go_meet
          case rel => exact ⟨_, (false), (by first | rfl | (simp; done) | (simp [*]; done)), H', ⟨by have := HK1.out; have := HJ4.out; first | omega | exact Nat.le_refl _⟩, ⟨by (with_reducible repeat (first | apply Kd.R_alloc | apply Kd.R_drewN | apply Kd.R_drew)); exact HO_3.out⟩, ⟨hbW HB⟩⟩
        case rest =>
         clear HC12
         try clear c1
         try clear p1
         try clear q1
         try clear hx1
         try clear c2
         try clear c2b0
         try clear p2
         try clear q2
         try clear hx2
         try clear c3
         try clear c3b0
         try clear p3
         try clear q3
         try clear hx3
         try clear c4
         try clear c4b0
         try clear c6
         try clear c6b0
         try clear p6
         try clear c7
         try clear c7b0
         try clear c8
         try clear c8b0
         try clear c13
         try clear c13b0
         try clear c14
         try clear c14b0
         try clear hx1_0
         try clear hx2_0
         try clear hx3_0
         try clear p1
         try clear p2
         try clear p3
         try clear p6
         try clear q1
         try clear q2
         try clear q3
         obtain ⟨kq, x39_11, rfl, HA, HJ11, HO_3, HB⟩ := hcut
         cases kq with
         | zero => exact absurd HA.out (by simp [q22z.j3])
         | succ kj11 =>
          have H := HA.out
          clear HA
          simp only [q22z.j3] at H
          by_cases c17 : x39_11 = true
          ·
           subst c17
           have H1 : (q22z.l0 kj11 x3_1 l0 (l0.length : Int) (wrap64 (x10_1 + 1))) = some r := by rw [if_pos rfl] at H; exact H
           clear H
           have H := H1
           clear H1
           have H' := Aside0.mk H
           clear H
           go_wp2
           go_roundg kj11
           case measure => have := HK1.out; have := HJ4.out; have := HJ11.out; omega
           case rel => exact ⟨(x3_1), (wrap64 (x10_1 + 1)), (by first | rfl | (simp; done) | (simp [*]; done)), H', ⟨by have := HK1.out; have := HJ4.out; have := HJ11.out; omega⟩, ⟨by (with_reducible repeat (first | apply Kd.R_alloc | apply Kd.R_drewN | apply Kd.R_drew)); exact HO_3.out⟩, ⟨hbW HB⟩⟩
          ·
           replace c17 := Bool.eq_false_iff.mpr c17
           subst c17
           have H1 : (if x3_1.length < 35184372088832 then ((some (x3_1 ++ [0] : List Int)).bind fun y4 => (q22z.l2 kj11 y4 (rd l0 x10_1) x6_4 (wrap64 ((y4.length : Int) - 1)) l0 (l0.length : Int) x10_1)) else (none)) = some r := by rw [if_neg (show ¬ (false = true) by decide)] at H; exact H
           clear H
           have H := H1
           clear H1
           by_cases c18 : x3_1.length < 35184372088832
           ·
            rw [if_pos c18] at H
            have LMc18 := Aside0.mk c18
            clear c18
            obtain ⟨y4, hy4⟩ : ∃ y_ : List Int, y_ = (x3_1 ++ [0]) := ⟨_, rfl⟩
            replace H : (q22z.l2 kj11 y4 (rd l0 x10_1) x6_4 (wrap64 ((y4.length : Int) - 1)) l0 (l0.length : Int) x10_1) = some r := by first | (rw [hy4]; with_reducible exact H) | (have H2_ := (Option.bind_some _ _).symm.trans H; rw [hy4]; with_reducible exact H2_) | (have H2_ := (Option.bind_some _ _).symm.trans H; with_reducible exact H2_) | with_reducible exact H | (rw [hy4]; exact H) | exact H
            have Ny4 := Aside0.mk hy4
            clear hy4
            have H' := Aside0.mk H
            clear H
            go_wp2_with (first | ((with_reducible refine gate_builtin (b := .append) (xs := #[.tmp 40, .tmp 41]) rfl ?_); at_builtin; refine Kd.R_append (Kd.int .u32) (w0 := w) w.heap.size rfl (.tmp 40) (.tmp 41) 23 22 (.int .u32 0) 4 rfl Try.underlying23 info22 rfl (by decide) (by omega) u3 x3_1 0 [.int .u32 0] (fun _ => True) (fun _ => False) rfl rfl ?aP (fun _ hk => hk.elim) ?aF ?aO ?aB ?aS ?aL ?_; (case aP => exact rfl); (case aB => exact (hbW HB)); (case aF => exact (fun _ _ => trivial)); (case aO => exact (rW HO_3)); (case aS => exact (below_size (hbW HB))); (case aL => have := LMc18.out; omega); intro v5 w19 ho hb hg hat; rw [← Ny4.out] at ho; have n0_ := Aside0.mk (hb); have n1_ := Aside0.mk (ho); clear HB; clear HO_3; have HB := n0_; have HO6 := n1_; clear n0_ n1_; clear ho hb hg hat; obtain ⟨Ao20, co20, eo20⟩ := Kd.R_slice HO6.out; subst eo20))
            go_loopg [7] kj11 (fun kq v7 w' => ∃ (x3_4 : List Int) (x7_4 : Int), v7 = .int .i64 x7_4 ∧ Aside0 (q22z.l2 kq x3_4 (rd l0 x10_1) x6_4 x7_4 l0 (l0.length : Int) x10_1 = some r) ∧ Aside0 (kq ≤ kj11) ∧ Aside0 (Kd.R (Kd.int .u32) 22 w' w.heap.size (fun _ => True) (.slice Ao20 y4.length co20) x3_4) ∧ Aside0 (Below w.heap.size w w'))
            case atStart => exact ⟨(y4), (wrap64 ((y4.length : Int) - 1)), (by first | rfl | (simp; done) | (simp [*]; done)), H', ⟨Nat.le_refl _⟩, ⟨by (with_reducible repeat (first | apply Kd.R_alloc | apply Kd.R_drewN | apply Kd.R_drew)); exact HO6.out⟩, ⟨hbW HB⟩⟩
            case round =>
             clear H'
             try clear c1
             try clear p1
             try clear q1
             try clear hx1
             try clear c2
             try clear c2b0
             try clear p2
             try clear q2
             try clear hx2
             try clear c3
             try clear c3b0
             try clear p3
             try clear q3
             try clear hx3
             try clear c4
             try clear c4b0
             try clear c6
             try clear c6b0
             try clear p6
             try clear c7
             try clear c7b0
             try clear c8
             try clear c8b0
             try clear c13
             try clear c13b0
             try clear c14
             try clear c14b0
             try clear c17
             try clear c18
             try clear hx1_0
             try clear hx2_0
             try clear hx3_0
             try clear p1
             try clear p2
             try clear p3
             try clear p6
             try clear q1
             try clear q2
             try clear q3
             obtain ⟨x3_4, x7_4, rfl, HA, HK4, HO_3, HB⟩ := hrel
             have hl3_4 := (Kd.R_reads' HO_3.out).1
             rw [hl3_4] at HO_3
             (try simp only [hl3_4])
             cases gk with
             | zero => exact absurd HA.out (by simp [q22z.l2])
             | succ k4 =>
              have H := HA.out
              clear HA
              simp only [q22z.l2] at H
              by_cases c21 : x7_4 > x6_4
              ·
               rw [if_pos c21] at H
               have c21b0 : decide (x6_4 < x7_4) = true := decide_eq_true c21
               clear c21
               obtain ⟨ji22, hji22⟩ : ∃ j_ : Int, (wrap64 (x7_4 - 1)) = j_ := ⟨_, rfl⟩
               replace H : (if 0 ≤ (ji22) then (if (ji22) < (x3_4.length : Int) then (if 0 ≤ x7_4 then (if x7_4 < (x3_4.length : Int) then (q22z.l2 k4 (x3_4.set (x7_4 : Int).toNat (rd x3_4 (ji22))) (rd l0 x10_1) x6_4 ji22 l0 (l0.length : Int) x10_1) else (none)) else (none)) else (none)) else (none)) = some r := by first | (rw [hji22] at H; exact H) | (simp only [hji22] at H ⊢; exact H)
               have hji22w : (IntKind.i64.wrap (x7_4 - 1)) = ji22 := (i64_w _).trans hji22
               by_cases c23 : 0 ≤ (ji22)
               ·
                rw [if_pos c23] at H
                have c23b0 : decide (0 ≤ (ji22)) = true := decide_eq_true c23
                clear c23
                by_cases c24 : (ji22) < (x3_4.length : Int)
                ·
                 rw [if_pos c24] at H
                 have c24b0 : decide ((ji22) < (x3_4.length : Int)) = true := decide_eq_true c24
                 clear c24
                 by_cases c25 : 0 ≤ x7_4
                 ·
                  rw [if_pos c25] at H
                  have c25b0 : decide (0 ≤ x7_4) = true := decide_eq_true c25
                  clear c25
                  by_cases c26 : x7_4 < (x3_4.length : Int)
                  ·
                   rw [if_pos c26] at H
                   have c26b0 : decide (x7_4 < (x3_4.length : Int)) = true := decide_eq_true c26
                   clear c26
                   obtain ⟨y8, hy8⟩ : ∃ y_ : List Int, y_ = (x3_4.set (x7_4 : Int).toNat (rd x3_4 (ji22))) := ⟨_, rfl⟩
                   replace H : (q22z.l2 k4 y8 (rd l0 x10_1) x6_4 ji22 l0 (l0.length : Int) x10_1) = some r := by first | (rw [hy8]; with_reducible exact H) | (have H2_ := (Option.bind_some _ _).symm.trans H; rw [hy8]; with_reducible exact H2_) | (have H2_ := (Option.bind_some _ _).symm.trans H; with_reducible exact H2_) | with_reducible exact H | (rw [hy8]; exact H) | exact H
                   have Ny8 := Aside0.mk hy8
                   clear hy8
                   have H' := Aside0.mk H
                   clear H
                   have p7 : 0 ≤ ((ji22) : Int) := of_decide_eq_true (by first | (with_reducible assumption) | assumption)
                   have q7 : (ji22) < (x3_4.length : Int) := of_decide_eq_true (by first | (with_reducible assumption) | assumption)
                   obtain ⟨ad7, e7, hx7_0⟩ := Kd.at_int (Kd.R_reads' HO_3.out).2.2 (ji22) p7 q7
                   cases e7
                   replace p7 := eq_true p7
                   replace q7 := eq_true q7
                   have p27 : 0 ≤ (x7_4 : Int) := of_decide_eq_true (by first | (with_reducible assumption) | assumption)
                   have q27 : (x7_4 : Int) < ((x3_4.length : Int) : Int) := of_decide_eq_true (by first | (with_reducible assumption) | assumption)
                   obtain ⟨go27, co27, eo27, gb27, gl27, cl27, HG27⟩ := Kd.R_form HO_3.out (by omega)
                   (first | cases eo27 | (injection eo27 with ea_ en_ ec_; (first | subst ea_ | (injection ea_ with ea_; subst ea_)); subst ec_; clear en_))
                   have GB27 := Aside0.mk gb27
                   have GG27 := Aside0.mk HG27
                   clear gb27 gl27 HG27
                   (first | simp only [add_plain] at hx7_0 | skip)
                   obtain ⟨hx27_0, hf27_0⟩ := Kd.R_celln 0 HO_3.out (x7_4 : Int) p27 q27
                   replace p27 := eq_true p27
                   replace q27 := eq_true q27
                   have HP28 := Kd.R_putg HO_3.out (x7_4 : Int) (rd x3_4 (ji22))
                   go_wp2_with (first | ((with_reducible refine gate_store (t := 22) (p := 58) rfl ?_); refine store_event (t := 22) (p := 58) (v := ?vo_w29) (w1 := (wr.setCell ⟨go27, (x7_4 : Int).toNat, none⟩ (.int .u32 (rd x3_4 (ji22))))) ?hg ?ho ?hn ?hr ?_; (case ho => rfl); (case hg => rfl); (case hn => rfl); (case hr => first | (go_simp; done) | (go_simp; rfl)); intro w29 hw; have hg : wr.grownBy w29 (some go27) := (by rw [hw]; exact HP28.2); have hp_ : Kd.R (Kd.int .u32) 22 w29 w.heap.size (fun _ => True) (.slice (some ⟨go27, 0, none⟩) x3_4.length co20) y8 := (by rw [hw, Ny8.out]; exact HP28.1); clear HP28; replace HO_3 := Aside0.mk (hp_); replace HB := Aside0.mk ((by rw [hw]; exact below_set (HB.out) GB27.out : Below w.heap.size w w29)); clear hg hw hp_))
                   (try simp only [← hl3_4])
                   go_roundg k4
                   case measure => have := HK1.out; have := HJ4.out; have := HJ11.out; have := HK4.out; omega
                   case rel => exact ⟨(y8), (ji22), (by first | rfl | (simp; done) | (simp only [← hji22] <;> (first | rfl | simp)) | (simp [*]; done)), H', ⟨by have := HK1.out; have := HJ4.out; have := HJ11.out; have := HK4.out; omega⟩, ⟨by (try simp only [hl3_4]); (with_reducible repeat (first | apply Kd.R_alloc | apply Kd.R_drewN | apply Kd.R_drew)); exact HO_3.out⟩, ⟨hbW HB⟩⟩
                  ·
                   rw [if_neg c26] at H
                   exact absurd H (by simp)
                 ·
                  rw [if_neg c25] at H
                  exact absurd H (by simp)
                ·
                 rw [if_neg c24] at H
                 exact absurd H (by simp)
               ·
                rw [if_neg c23] at H
                exact absurd H (by simp)
              ·
               rw [if_neg c21] at H
               have c21b0 : decide (x6_4 < x7_4) = false := decide_eq_false c21
               clear c21
               by_cases c30 : 0 ≤ x6_4
               ·
                rw [if_pos c30] at H
                have c30b0 : decide (0 ≤ x6_4) = true := decide_eq_true c30
                clear c30
                by_cases c31 : x6_4 < (x3_4.length : Int)
                ·
                 rw [if_pos c31] at H
                 have c31b0 : decide (x6_4 < (x3_4.length : Int)) = true := decide_eq_true c31
                 clear c31
                 obtain ⟨y9, hy9⟩ : ∃ y_ : List Int, y_ = (x3_4.set (x6_4 : Int).toNat (rd l0 x10_1)) := ⟨_, rfl⟩
                 replace H : (q22z.l0 k4 y9 l0 (l0.length : Int) (wrap64 (x10_1 + 1))) = some r := by first | (rw [hy9]; with_reducible exact H) | (have H2_ := (Option.bind_some _ _).symm.trans H; rw [hy9]; with_reducible exact H2_) | (have H2_ := (Option.bind_some _ _).symm.trans H; with_reducible exact H2_) | with_reducible exact H | (rw [hy9]; exact H) | exact H
                 have Ny9 := Aside0.mk hy9
                 clear hy9
                 have H' := Aside0.mk H
                 clear H
                 have p32 : 0 ≤ (x6_4 : Int) := of_decide_eq_true (by first | (with_reducible assumption) | assumption)
                 have q32 : (x6_4 : Int) < ((x3_4.length : Int) : Int) := of_decide_eq_true (by first | (with_reducible assumption) | assumption)
                 obtain ⟨go32, co32, eo32, gb32, gl32, cl32, HG32⟩ := Kd.R_form HO_3.out (by omega)
                 (first | cases eo32 | (injection eo32 with ea_ en_ ec_; (first | subst ea_ | (injection ea_ with ea_; subst ea_)); subst ec_; clear en_))
                 have GB32 := Aside0.mk gb32
                 have GG32 := Aside0.mk HG32
                 clear gb32 gl32 HG32
                 obtain ⟨hx32_0, hf32_0⟩ := Kd.R_celln 0 HO_3.out (x6_4 : Int) p32 q32
                 replace p32 := eq_true p32
                 replace q32 := eq_true q32
                 have HP33 := Kd.R_putg HO_3.out (x6_4 : Int) (rd l0 x10_1)
                 go_wp2_with (first | ((with_reducible refine gate_store (t := 22) (p := 62) rfl ?_); refine store_event (t := 22) (p := 62) (v := ?vo_w34) (w1 := (wr.setCell ⟨go32, (x6_4 : Int).toNat, none⟩ (.int .u32 (rd l0 x10_1)))) ?hg ?ho ?hn ?hr ?_; (case ho => rfl); (case hg => rfl); (case hn => rfl); (case hr => first | (go_simp; done) | (go_simp; rfl)); intro w34 hw; have hg : wr.grownBy w34 (some go32) := (by rw [hw]; exact HP33.2); have hp_ : Kd.R (Kd.int .u32) 22 w34 w.heap.size (fun _ => True) (.slice (some ⟨go32, 0, none⟩) x3_4.length co20) y9 := (by rw [hw, Ny9.out]; exact HP33.1); clear HP33; replace HO_3 := Aside0.mk (hp_); replace HB := Aside0.mk ((by rw [hw]; exact below_set (HB.out) GB32.out : Below w.heap.size w w34)); clear hg hw hp_))
                 (try simp only [← hl3_4])
                 go_roundg k4
                 case measure => have := HK1.out; have := HJ4.out; have := HJ11.out; have := HK4.out; omega
                 case rel => exact ⟨(y9), (wrap64 (x10_1 + 1)), (by first | rfl | (simp; done) | (simp [*]; done)), H', ⟨by have := HK1.out; have := HJ4.out; have := HJ11.out; have := HK4.out; omega⟩, ⟨by (try simp only [hl3_4]); (with_reducible repeat (first | apply Kd.R_alloc | apply Kd.R_drewN | apply Kd.R_drew)); exact HO_3.out⟩, ⟨hbW HB⟩⟩
                ·
                 rw [if_neg c31] at H
                 exact absurd H (by simp)
               ·
                rw [if_neg c30] at H
                exact absurd H (by simp)
           ·
            rw [if_neg c18] at H
            exact absurd H (by simp)
     ·
      rw [if_neg c4] at H
      exact absurd H (by simp)
    ·
     rw [if_neg c3] at H
     exact absurd H (by simp)
   ·
    rw [if_neg c2] at H
    have c2b0 : decide (x10_1 < (l0.length : Int)) = false := decide_eq_false c2
    clear c2
    obtain rfl := Option.some.inj H
    go_wp2
    go_ret
    exact ⟨_, by first | rfl | (simp [errW_none, errW_some] <;> rfl) | (simp [*, errW_none, errW_some] <;> rfl), by (with_reducible repeat (first | apply Kd.R_alloc | apply Kd.R_drewN | apply Kd.R_drew)); exact HO_3.out, hbW HB⟩

/-! ### dragomanref12_Do: function 17 -/
def q23z.l0 : Nat → List Int → List Int → Int → Int → Int → Int → List Int → List (S53) → Int → Int → List Int → List Int → Int → Int → Int → Int → Option (Int × Int × List Int × List Int × Int × Int × Int × Int)
 | 0, _, _, _, _, _, _, _, _, _, _, _, _, _, _, _, _ => none
 | k + 1, x5, x65, x66, x67, x2000, x2001, x2002, x2003, x3000, x3001, x3002, x3003, x3004, x3005, x3006, x3007 => if x67 < x66 then (if 0 ≤ x67 then (if x67 < (x65.length : Int) then ((q12z.f k x2003 (([rd x65 x67] : List Int))).bind fun t39 => (if t39 = true then (q23z.l0 k x5 x65 x66 (wrap64 (x67 + 1)) x2000 x2001 x2002 x2003 x3000 x3001 x3002 x3003 x3004 x3005 x3006 x3007) else (if x5.length < 35184372088832 then (q23z.l0 k (x5 ++ [rd x65 x67]) x65 x66 (wrap64 (x67 + 1)) x2000 x2001 x2002 x2003 x3000 x3001 x3002 x3003 x3004 x3005 x3006 x3007) else (none)))) else (none)) else (none)) else ((q22z.f k x5).bind fun t43 => (some (x3000, x3001, x3002, t43, x3004, x3005, x3006, x3007)))
def q23z.f (k : Nat) (a0_0 : Int) (a0_1 : Int) (l0_2 : List Int) (l0_3 : List (S53)) (a1_0 : Int) (a1_1 : Int) (l1_2 : List Int) (l1_3 : List Int) (a1_4 : Int) (a1_5 : Int) (a1_6 : Int) (a1_7 : Int) : Option (Int × Int × List Int × List Int × Int × Int × Int × Int) := (q19z.f a1_0 a1_1 l1_2 l1_3 a1_4 a1_5 a1_6 a1_7).bind fun bt4 => ((q21z.f k a0_0 a0_1 l0_2 l0_3).bind fun t16 => (if t16 = true then (if a0_0 = 1 then (some (bt4.1, bt4.2.1, bt4.2.2.1, bt4.2.2.2.1, a0_1, bt4.2.2.2.2.2.1, bt4.2.2.2.2.2.2.1, bt4.2.2.2.2.2.2.2)) else (if a0_0 = 2 then (some (bt4.1, bt4.2.1, bt4.2.2.1, bt4.2.2.2.1, bt4.2.2.2.2.1, a0_1, bt4.2.2.2.2.2.2.1, bt4.2.2.2.2.2.2.2)) else (if a0_0 = 3 then (some (bt4.1, bt4.2.1, bt4.2.2.1, bt4.2.2.2.1, bt4.2.2.2.2.1, bt4.2.2.2.2.2.1, wrap64 (a0_1), bt4.2.2.2.2.2.2.2)) else (if a0_0 = 4 then (some (bt4.1, bt4.2.1, bt4.2.2.1, bt4.2.2.2.1, bt4.2.2.2.2.1, bt4.2.2.2.2.2.1, bt4.2.2.2.2.2.2.1, a0_1)) else (if a0_0 = 5 then ((some (([] : List Int) : List Int)).bind fun y17 => (if y17.length + l0_2.length < 35184372088832 then ((some (y17 ++ l0_2 : List Int)).bind fun y20 => (if y20.length + bt4.2.2.1.length < 35184372088832 then (some (bt4.1, bt4.2.1, (y20 ++ bt4.2.2.1), bt4.2.2.2.1, bt4.2.2.2.2.1, bt4.2.2.2.2.2.1, bt4.2.2.2.2.2.2.1, bt4.2.2.2.2.2.2.2)) else (none))) else (none))) else (if a0_0 = 6 then (if bt4.2.2.2.1.length + l0_2.length < 35184372088832 then ((q22z.f k (bt4.2.2.2.1 ++ l0_2)).bind fun t29 => (some (bt4.1, bt4.2.1, bt4.2.2.1, t29, bt4.2.2.2.2.1, bt4.2.2.2.2.2.1, bt4.2.2.2.2.2.2.1, bt4.2.2.2.2.2.2.2))) else (none)) else (if a0_0 = 7 then ((q22z.f k l0_2).bind fun t32 => (some (bt4.1, bt4.2.1, bt4.2.2.1, t32, bt4.2.2.2.2.1, bt4.2.2.2.2.2.1, bt4.2.2.2.2.2.2.1, bt4.2.2.2.2.2.2.2))) else (if a0_0 = 8 then (q23z.l0 k ([] : List Int) bt4.2.2.2.1 (bt4.2.2.2.1.length : Int) 0 a0_0 a0_1 l0_2 l0_3 bt4.1 bt4.2.1 bt4.2.2.1 bt4.2.2.2.1 bt4.2.2.2.2.1 bt4.2.2.2.2.2.1 bt4.2.2.2.2.2.2.1 bt4.2.2.2.2.2.2.2) else (some (bt4.1, bt4.2.1, bt4.2.2.1, bt4.2.2.2.1, bt4.2.2.2.2.1, bt4.2.2.2.2.2.1, bt4.2.2.2.2.2.2.1, bt4.2.2.2.2.2.2.2)))))))))) else (some (bt4.1, bt4.2.1, bt4.2.2.1, bt4.2.2.2.1, bt4.2.2.2.2.1, bt4.2.2.2.2.2.1, bt4.2.2.2.2.2.2.1, bt4.2.2.2.2.2.2.2))))
theorem q23z.mono_l : ∀ k, (∀ y0 y1 y2 y3 y4 y5 y6 y7 y8 y9 y10 y11 y12 y13 y14 y15, LeO (q23z.l0 k y0 y1 y2 y3 y4 y5 y6 y7 y8 y9 y10 y11 y12 y13 y14 y15) (q23z.l0 (k + 1) y0 y1 y2 y3 y4 y5 y6 y7 y8 y9 y10 y11 y12 y13 y14 y15))
 | 0 => fun _ _ _ _ _ _ _ _ _ _ _ _ _ _ _ _ r h => by simp [q23z.l0] at h
 | k + 1 => by
  have ih0 := q23z.mono_l k
  ·
   intro y0 y1 y2 y3 y4 y5 y6 y7 y8 y9 y10 y11 y12 y13 y14 y15
   unfold q23z.l0
   repeat' first
   | (with_reducible exact ih0 _ _ _ _ _ _ _ _ _ _ _ _ _ _ _ _)
   | (with_reducible exact q22z.mono _ _)
   | (with_reducible exact q12z.mono _ _ _)
   | (with_reducible exact q21z.mono _ _ _ _ _)
   | (with_reducible exact LeO.refl _)
   | (with_reducible exact LeO.none _)
   | (with_reducible refine LeO.ite ?_ ?_)
   | (with_reducible refine LeO.bind ?_ (fun _ => ?_))
   | exact ih0 _ _ _ _ _ _ _ _ _ _ _ _ _ _ _ _
   | exact q22z.mono _ _
   | exact q12z.mono _ _ _
   | exact q21z.mono _ _ _ _ _
   | exact LeO.none _
   | refine LeO.ite ?_ ?_
   | refine LeO.bind ?_ (fun _ => ?_)
theorem q23z.mono : ∀ a0 a1 a2 a3 a4 a5 a6 a7 a8 a9 a10 a11 k, LeO (q23z.f k a0 a1 a2 a3 a4 a5 a6 a7 a8 a9 a10 a11) (q23z.f (k + 1) a0 a1 a2 a3 a4 a5 a6 a7 a8 a9 a10 a11) := by
 intro a0 a1 a2 a3 a4 a5 a6 a7 a8 a9 a10 a11 k
 have ih0 := q23z.mono_l k
 unfold q23z.f
 repeat' first
   | (with_reducible exact ih0 _ _ _ _ _ _ _ _ _ _ _ _ _ _ _ _)
   | (with_reducible exact q22z.mono _ _)
   | (with_reducible exact q12z.mono _ _ _)
   | (with_reducible exact q21z.mono _ _ _ _ _)
   | (with_reducible exact LeO.refl _)
   | (with_reducible exact LeO.none _)
   | (with_reducible refine LeO.ite ?_ ?_)
   | (with_reducible refine LeO.bind ?_ (fun _ => ?_))
   | exact ih0 _ _ _ _ _ _ _ _ _ _ _ _ _ _ _ _
   | exact q22z.mono _ _
   | exact q12z.mono _ _ _
   | exact q21z.mono _ _ _ _ _
   | exact LeO.none _
   | refine LeO.ite ?_ ?_
   | refine LeO.bind ?_ (fun _ => ?_)
def q23z.T14 : Bool × List (List Nat × List Nat) := (true, [([], []), ([], []), ([1], [1]), ([0, 2], [0, 2]), ([], []), ([4], [4]), ([3, 5, 3], [3, 5]), ([0, 1, 2, 3, 4, 5, 6], []), ([7, 6, 6, 0, 1, 2, 3, 4, 5, 6], [6, 7])])
def q23z.B14 : List Nat := [0, 0, 2, 7, 0, 16, 63, 127, 255]
theorem q23z.tab14 : rtab .any (opsOf Try.f17 14) = q23z.T14 := by kernel_rfl
theorem q23z.bits14 : waitsOk q23z.T14.2 q23z.B14 = true := by kernel_rfl
set_option maxHeartbeats 8000000 in
set_option maxRecDepth 100000 in
theorem q23z.calls (k : Nat) (a0_0 : Int) (a0_1 : Int) (A0_2 : Option Addr) (c0_2 : Nat) (l0_2 : List Int) (A0_3 : Option Addr) (c0_3 : Nat) (l0_3 : List (S53)) (a1_0 : Int) (a1_1 : Int) (A1_2 : Option Addr) (c1_2 : Nat) (l1_2 : List Int) (A1_3 : Option Addr) (c1_3 : Nat) (l1_3 : List Int) (a1_4 : Int) (a1_5 : Int) (a1_6 : Int) (a1_7 : Int) (r1 : Int) (r2 : Int) (r3 : List Int) (r4 : List Int) (r5 : Int) (r6 : Int) (r7 : Int) (r8 : Int) (w : World) (hr0_2 : Kd.C (Kd.int .u32) w A0_2 l0_2.length l0_2) (hc0_2 : l0_2.length ≤ c0_2) (hr0_3 : Kd.C k53 w A0_3 l0_3.length l0_3) (hc0_3 : l0_3.length ≤ c0_3) (hr1_2 : Kd.C (Kd.int .u32) w A1_2 l1_2.length l1_2) (hc1_2 : l1_2.length ≤ c1_2) (hr1_3 : Kd.C (Kd.int .u32) w A1_3 l1_3.length l1_3) (hc1_3 : l1_3.length ≤ c1_3) (h : q23z.f k a0_0 a0_1 l0_2 l0_3 a1_0 a1_1 l1_2 l1_3 a1_4 a1_5 a1_6 a1_7 = some (r1, r2, r3, r4, r5, r6, r7, r8)) :
  Calls Try.prog 17 #[.agg #[.int .i64 a0_0, .int .u32 a0_1, .slice A0_2 l0_2.length c0_2, .slice A0_3 l0_3.length c0_3], .agg #[.int .u32 a1_0, .int .i64 a1_1, .slice A1_2 l1_2.length c1_2, .slice A1_3 l1_3.length c1_3, .int .u32 a1_4, .int .u32 a1_5, .int .i64 a1_6, .int .u32 a1_7]] w fun e w' => ∃ v2_ v3_ : Value, e = .returned (.agg #[.int .u32 r1, .int .i64 r2, v2_, v3_, .int .u32 r5, .int .u32 r6, .int .i64 r7, .int .u32 r8]) ∧ Kd.R (Kd.int .u32) 22 w' w.heap.size (fun k_ => some k_ ≠ (v3_ : Value).ownBlock) v2_ r3 ∧ Kd.R (Kd.int .u32) 22 w' w.heap.size (fun k_ => some k_ ≠ (v2_ : Value).ownBlock) v3_ r4 ∧ Below w.heap.size w w' := by
 have hu26 := Try.underlying26
 have hu30 := Try.underlying30
 have HR0_2 := Aside0.mk hr0_2
 have HC0_2 := Aside0.mk hc0_2
 clear hr0_2 hc0_2
 have HR0_3 := Aside0.mk hr0_3
 have HC0_3 := Aside0.mk hc0_3
 clear hr0_3 hc0_3
 have HR1_2 := Aside0.mk hr1_2
 have HC1_2 := Aside0.mk hc1_2
 clear hr1_2 hc1_2
 have HR1_3 := Aside0.mk hr1_3
 have HC1_3 := Aside0.mk hc1_3
 clear hr1_3 hc1_3
 have HB := Aside0.mk (Below.refl w.heap.size w)
 have H : ((q19z.f a1_0 a1_1 l1_2 l1_3 a1_4 a1_5 a1_6 a1_7).bind fun bt4 => ((q21z.f k a0_0 a0_1 l0_2 l0_3).bind fun t16 => (if t16 = true then (if a0_0 = 1 then (some (bt4.1, bt4.2.1, bt4.2.2.1, bt4.2.2.2.1, a0_1, bt4.2.2.2.2.2.1, bt4.2.2.2.2.2.2.1, bt4.2.2.2.2.2.2.2)) else (if a0_0 = 2 then (some (bt4.1, bt4.2.1, bt4.2.2.1, bt4.2.2.2.1, bt4.2.2.2.2.1, a0_1, bt4.2.2.2.2.2.2.1, bt4.2.2.2.2.2.2.2)) else (if a0_0 = 3 then (some (bt4.1, bt4.2.1, bt4.2.2.1, bt4.2.2.2.1, bt4.2.2.2.2.1, bt4.2.2.2.2.2.1, wrap64 (a0_1), bt4.2.2.2.2.2.2.2)) else (if a0_0 = 4 then (some (bt4.1, bt4.2.1, bt4.2.2.1, bt4.2.2.2.1, bt4.2.2.2.2.1, bt4.2.2.2.2.2.1, bt4.2.2.2.2.2.2.1, a0_1)) else (if a0_0 = 5 then ((some (([] : List Int) : List Int)).bind fun y17 => (if y17.length + l0_2.length < 35184372088832 then ((some (y17 ++ l0_2 : List Int)).bind fun y20 => (if y20.length + bt4.2.2.1.length < 35184372088832 then (some (bt4.1, bt4.2.1, (y20 ++ bt4.2.2.1), bt4.2.2.2.1, bt4.2.2.2.2.1, bt4.2.2.2.2.2.1, bt4.2.2.2.2.2.2.1, bt4.2.2.2.2.2.2.2)) else (none))) else (none))) else (if a0_0 = 6 then (if bt4.2.2.2.1.length + l0_2.length < 35184372088832 then ((q22z.f k (bt4.2.2.2.1 ++ l0_2)).bind fun t29 => (some (bt4.1, bt4.2.1, bt4.2.2.1, t29, bt4.2.2.2.2.1, bt4.2.2.2.2.2.1, bt4.2.2.2.2.2.2.1, bt4.2.2.2.2.2.2.2))) else (none)) else (if a0_0 = 7 then ((q22z.f k l0_2).bind fun t32 => (some (bt4.1, bt4.2.1, bt4.2.2.1, t32, bt4.2.2.2.2.1, bt4.2.2.2.2.2.1, bt4.2.2.2.2.2.2.1, bt4.2.2.2.2.2.2.2))) else (if a0_0 = 8 then (q23z.l0 k ([] : List Int) bt4.2.2.2.1 (bt4.2.2.2.1.length : Int) 0 a0_0 a0_1 l0_2 l0_3 bt4.1 bt4.2.1 bt4.2.2.1 bt4.2.2.2.1 bt4.2.2.2.2.1 bt4.2.2.2.2.2.1 bt4.2.2.2.2.2.2.1 bt4.2.2.2.2.2.2.2) else (some (bt4.1, bt4.2.1, bt4.2.2.1, bt4.2.2.2.1, bt4.2.2.2.2.1, bt4.2.2.2.2.2.1, bt4.2.2.2.2.2.2.1, bt4.2.2.2.2.2.2.2)))))))))) else (some (bt4.1, bt4.2.1, bt4.2.2.1, bt4.2.2.2.1, bt4.2.2.2.2.1, bt4.2.2.2.2.2.1, bt4.2.2.2.2.2.2.1, bt4.2.2.2.2.2.2.2))))) = some (r1, r2, r3, r4, r5, r6, r7, r8) := h
 clear h
 replace H := Option.bind_eq_some_iff.mp H
 obtain ⟨⟨t4, t5, t6, t9, t12, t13, t14, t15⟩, A30, H⟩ := H
 replace H : ((q21z.f k a0_0 a0_1 l0_2 l0_3).bind fun t16 => (if t16 = true then (if a0_0 = 1 then (some (t4, t5, t6, t9, a0_1, t13, t14, t15)) else (if a0_0 = 2 then (some (t4, t5, t6, t9, t12, a0_1, t14, t15)) else (if a0_0 = 3 then (some (t4, t5, t6, t9, t12, t13, wrap64 (a0_1), t15)) else (if a0_0 = 4 then (some (t4, t5, t6, t9, t12, t13, t14, a0_1)) else (if a0_0 = 5 then ((some (([] : List Int) : List Int)).bind fun y17 => (if y17.length + l0_2.length < 35184372088832 then ((some (y17 ++ l0_2 : List Int)).bind fun y20 => (if y20.length + t6.length < 35184372088832 then (some (t4, t5, (y20 ++ t6), t9, t12, t13, t14, t15)) else (none))) else (none))) else (if a0_0 = 6 then (if t9.length + l0_2.length < 35184372088832 then ((q22z.f k (t9 ++ l0_2)).bind fun t29 => (some (t4, t5, t6, t29, t12, t13, t14, t15))) else (none)) else (if a0_0 = 7 then ((q22z.f k l0_2).bind fun t32 => (some (t4, t5, t6, t32, t12, t13, t14, t15))) else (if a0_0 = 8 then (q23z.l0 k ([] : List Int) t9 (t9.length : Int) 0 a0_0 a0_1 l0_2 l0_3 t4 t5 t6 t9 t12 t13 t14 t15) else (some (t4, t5, t6, t9, t12, t13, t14, t15)))))))))) else (some (t4, t5, t6, t9, t12, t13, t14, t15)))) = some (r1, r2, r3, r4, r5, r6, r7, r8) := H
 have A3 := Aside0.mk A30
 clear A30
 replace H := Option.bind_eq_some_iff.mp H
 obtain ⟨t16, A40, H⟩ := H
 replace H : (if t16 = true then (if a0_0 = 1 then (some (t4, t5, t6, t9, a0_1, t13, t14, t15)) else (if a0_0 = 2 then (some (t4, t5, t6, t9, t12, a0_1, t14, t15)) else (if a0_0 = 3 then (some (t4, t5, t6, t9, t12, t13, wrap64 (a0_1), t15)) else (if a0_0 = 4 then (some (t4, t5, t6, t9, t12, t13, t14, a0_1)) else (if a0_0 = 5 then ((some (([] : List Int) : List Int)).bind fun y17 => (if y17.length + l0_2.length < 35184372088832 then ((some (y17 ++ l0_2 : List Int)).bind fun y20 => (if y20.length + t6.length < 35184372088832 then (some (t4, t5, (y20 ++ t6), t9, t12, t13, t14, t15)) else (none))) else (none))) else (if a0_0 = 6 then (if t9.length + l0_2.length < 35184372088832 then ((q22z.f k (t9 ++ l0_2)).bind fun t29 => (some (t4, t5, t6, t29, t12, t13, t14, t15))) else (none)) else (if a0_0 = 7 then ((q22z.f k l0_2).bind fun t32 => (some (t4, t5, t6, t32, t12, t13, t14, t15))) else (if a0_0 = 8 then (q23z.l0 k ([] : List Int) t9 (t9.length : Int) 0 a0_0 a0_1 l0_2 l0_3 t4 t5 t6 t9 t12 t13 t14 t15) else (some (t4, t5, t6, t9, t12, t13, t14, t15)))))))))) else (some (t4, t5, t6, t9, t12, t13, t14, t15))) = some (r1, r2, r3, r4, r5, r6, r7, r8) := H
 have A4 := Aside0.mk A40
 clear A40
 by_cases c5 : t16 = true
 ·
  subst c5
  have H1 : (if a0_0 = 1 then (some (t4, t5, t6, t9, a0_1, t13, t14, t15)) else (if a0_0 = 2 then (some (t4, t5, t6, t9, t12, a0_1, t14, t15)) else (if a0_0 = 3 then (some (t4, t5, t6, t9, t12, t13, wrap64 (a0_1), t15)) else (if a0_0 = 4 then (some (t4, t5, t6, t9, t12, t13, t14, a0_1)) else (if a0_0 = 5 then ((some (([] : List Int) : List Int)).bind fun y17 => (if y17.length + l0_2.length < 35184372088832 then ((some (y17 ++ l0_2 : List Int)).bind fun y20 => (if y20.length + t6.length < 35184372088832 then (some (t4, t5, (y20 ++ t6), t9, t12, t13, t14, t15)) else (none))) else (none))) else (if a0_0 = 6 then (if t9.length + l0_2.length < 35184372088832 then ((q22z.f k (t9 ++ l0_2)).bind fun t29 => (some (t4, t5, t6, t29, t12, t13, t14, t15))) else (none)) else (if a0_0 = 7 then ((q22z.f k l0_2).bind fun t32 => (some (t4, t5, t6, t32, t12, t13, t14, t15))) else (if a0_0 = 8 then (q23z.l0 k ([] : List Int) t9 (t9.length : Int) 0 a0_0 a0_1 l0_2 l0_3 t4 t5 t6 t9 t12 t13 t14 t15) else (some (t4, t5, t6, t9, t12, t13, t14, t15)))))))))) = some (r1, r2, r3, r4, r5, r6, r7, r8) := by rw [if_pos rfl] at H; exact H
  clear H
  have H := H1
  clear H1
  have HH_c6 := Aside0.mk H
  clear H
  go_enter Try.func17, Try.ntmps17
  go_upto_region 4 with (first | ((with_reducible refine gate_dst (N := 2) rfl ?_); refine box_event ?hg (N := 2) ?hd (cs := #[.int .i64 a0_0, .int .u32 a0_1, .slice A0_2 l0_2.length c0_2, .slice A0_3 l0_3.length c0_3]) (t := 26) ?hr ?_; (case hd => rfl); (case hg => rfl); (case hr => first | (go_simp; done) | (go_simp; rfl)); intro gb1 hg w7 hbox hb; have BK1 := Aside0.mk (hbox); have GW1 := gwS hg HB; have GE1 := gwS hg HB; replace HB := hbS HB hb; clear hb hbox hg) | ((with_reducible refine gate_dst (N := 3) rfl ?_); refine box_event ?hg (N := 3) ?hd (cs := #[.int .u32 a1_0, .int .i64 a1_1, .slice A1_2 l1_2.length c1_2, .slice A1_3 l1_3.length c1_3, .int .u32 a1_4, .int .u32 a1_5, .int .i64 a1_6, .int .u32 a1_7]) (t := 30) ?hr ?_; (case hd => rfl); (case hg => rfl); (case hr => first | (go_simp; done) | (go_simp; rfl)); intro gb2 hg w8 hbox hb; have BK2 := Aside0.mk (hbox); have GW2 := gwS hg HB; have GE2 := gwS hg HB; have NB1_2 := nbL hg BK1; have NB2_1 := nbG hg BK1; replace BK1 := bkB BK1 hb; replace HB := hbS HB hb; clear hb hbox hg) | ((with_reducible refine gate_dst (N := 4) rfl ?_); refine box_event ?hg (N := 4) ?hd (cs := #[.int .u32 0, .int .i64 0, .slice none 0 0, .slice none 0 0, .int .u32 0, .int .u32 0, .int .i64 0, .int .u32 0]) (t := 30) ?hr ?_; (case hd => rfl); (case hg => rfl); (case hr => first | (go_simp; done) | (go_simp; rfl)); intro gb3 hg w9 hbox hb; have BK3 := Aside0.mk (hbox); have GW3 := gwS hg HB; have GE3 := gwS hg HB; have NB1_3 := nbL hg BK1; have NB3_1 := nbG hg BK1; have NB2_3 := nbL hg BK2; have NB3_2 := nbG hg BK2; replace BK1 := bkB BK1 hb; replace BK2 := bkB BK2 hb; replace HB := hbS HB hb; clear hb hbox hg; have hnb106 := NB2_1.out; have hnc106 := NB1_2.out; have hnb107 := NB2_3.out; have hnc107 := NB3_2.out; obtain ⟨hcz108_0, hcz108_1, hcz108_2, hcz108_3, hcz108_4, hcz108_5, hcz108_6, hcz108_7, hfz108_0, hfz108_1, hfz108_2, hfz108_3, hfz108_4, hfz108_5, hfz108_6, hfz108_7⟩ := bc8 BK2) | ((with_reducible refine gate_callee (f := 12) rfl ?_); refine goesL_ (some 9) rfl rfl Try.func12 (by kernel_rfl) rfl #[.agg #[.int .u32 a1_0, .int .i64 a1_1, .slice A1_2 l1_2.length c1_2, .slice A1_3 l1_3.length c1_3, .int .u32 a1_4, .int .u32 a1_5, .int .i64 a1_6, .int .u32 a1_7]] rfl (by (try simp only [List.map_toArray, List.map_cons, List.map_nil]); first | done | rfl | (simp only [List.length_drop, List.length_take]; rfl)) ?_; (with_reducible refine (q19z.calls a1_0 a1_1 _ _ l1_2 _ _ l1_3 a1_4 a1_5 a1_6 a1_7 t4 t5 t6 t9 t12 t13 t14 t15 _ ?side1 ?side2 ?side3 ?side4 A3.out).mono ?_); (case side1 => repeat (first | exact (Kd.C_below HR1_2.out HB.out) | (with_reducible refine Kd.C_alloc ?_ _) | (with_reducible refine Kd.C_drewN ?_ _) | (with_reducible refine Kd.C_drew ?_))); (case side2 => exact HC1_2.out); (case side3 => repeat (first | exact (Kd.C_below HR1_3.out HB.out) | (with_reducible refine Kd.C_alloc ?_ _) | (with_reducible refine Kd.C_drewN ?_ _) | (with_reducible refine Kd.C_drew ?_))); (case side4 => exact HC1_3.out); rintro e w13 ⟨v7, v10, rfl, ho0, ho1, hb⟩; refine ⟨_, rfl, ?_⟩; have HO8 := Aside0.mk (Kd.R_lower ho0 (below_size (hbW HB))); have HO11 := Aside0.mk (Kd.R_lower ho1 (below_size (hbW HB))); replace BK1 := bkB BK1 hb; replace BK2 := bkB BK2 hb; replace BK3 := bkB BK3 hb; replace HB := hbS HB hb; (try clear hb); (try clear ho0); (try clear ho1); obtain ⟨hcz14_0, hcz14_1, hcz14_2, hcz14_3, hcz14_4, hcz14_5, hcz14_6, hcz14_7, hfz14_0, hfz14_1, hfz14_2, hfz14_3, hfz14_4, hfz14_5, hfz14_6, hfz14_7⟩ := bc8 BK2; obtain ⟨Ao15, co15, eo15⟩ := Kd.R_slice HO8.out; subst eo15; obtain ⟨Ao16, co16, eo16⟩ := Kd.R_slice HO11.out; subst eo16; have hnb113 := NB1_3.out; have hnc113 := NB3_1.out; obtain ⟨hcz114_0, hcz114_1, hcz114_2, hcz114_3, hfz114_0, hfz114_1, hfz114_2, hfz114_3⟩ := bc4 BK1) | ((with_reducible refine gate_callee (f := 15) rfl ?_); refine goesL_ (some 11) rfl rfl Try.func15 (by kernel_rfl) rfl #[.agg #[.int .i64 a0_0, .int .u32 a0_1, .slice A0_2 l0_2.length c0_2, .slice A0_3 l0_3.length c0_3]] rfl (by (try simp only [List.map_toArray, List.map_cons, List.map_nil]); first | done | rfl | (simp only [List.length_drop, List.length_take]; rfl)) ?_; (with_reducible refine (q21z.calls k a0_0 a0_1 _ _ l0_2 _ _ l0_3 _ _ ?side1 ?side2 ?side3 ?side4 A4.out).mono ?_); (case side1 => exact Kd.C_below HR0_2.out (hbW HB)); (case side2 => exact HC0_2.out); (case side3 => exact Kd.C_below HR0_3.out (hbW HB)); (case side4 => exact HC0_3.out); rintro e w19 ⟨rfl, hb⟩; refine ⟨_, rfl, ?_⟩; replace HO8 := Aside0.mk (Kd.R_below (rW HO8) hb); replace HO11 := Aside0.mk (Kd.R_below (rW HO11) hb); replace BK1 := bvB BK1 hb; replace BK2 := Aside0.mk (blk_below (g := gb2) (o := .cells #[.int .u32 t4, .int .i64 t5, .slice Ao15 t6.length co15, .slice Ao16 t9.length co16, .int .u32 t12, .int .u32 t13, .int .i64 t14, .int .u32 t15] 30 (0, 0)) (bp8 BK2) hb); replace BK3 := bvB BK3 hb; replace HB := hbS HB hb; (try clear hb); obtain ⟨hcz203_0, hcz203_1, hcz203_2, hcz203_3, hfz203_0, hfz203_1, hfz203_2, hfz203_3⟩ := bc4 BK1; obtain ⟨hcz204_0, hcz204_1, hcz204_2, hcz204_3, hcz204_4, hcz204_5, hcz204_6, hcz204_7, hfz204_0, hfz204_1, hfz204_2, hfz204_3, hfz204_4, hfz204_5, hfz204_6, hfz204_7⟩ := bc8 BK2; obtain ⟨hcz205_0, hcz205_1, hcz205_2, hcz205_3, hcz205_4, hcz205_5, hcz205_6, hcz205_7, hfz205_0, hfz205_1, hfz205_2, hfz205_3, hfz205_4, hfz205_5, hfz205_6, hfz205_7⟩ := bc8 BK3))
  have H := HH_c6.out
  clear HH_c6
  by_cases c6 : a0_0 = 1
  ·
   rw [if_pos c6] at H
   have c6b0 : (a0_0 == 1) = true := beq_iff_eq.mpr c6
   have c6b1 : (a0_0 != 1) = false := bne_eq_false_iff_eq.mpr c6
   clear c6
   simp only [Option.some.injEq, Prod.mk.injEq] at H
   obtain ⟨rfl, rfl, rfl, rfl, rfl, rfl, rfl, rfl⟩ := H
   go_wp2
   refine bodyPost_ret (results_cell_row rfl _ _ gb3 30 #[.int .u32 t4, .int .i64 t5, .slice Ao15 t6.length co15, .slice Ao16 t9.length co16, .int .u32 a0_1, .int .u32 t13, .int .i64 t14, .int .u32 t15] (0, 0) _ rfl (bp8 BK3) Try.underlying30 rfl (by kernel_rfl)) rfl ?_
   exact ⟨_, _, by first | rfl | (simp [errW_none, errW_some] <;> rfl) | (simp [*, errW_none, errW_some] <;> rfl), moR (rW HO8), moR (rW HO11), hbW HB⟩
  ·
   rw [if_neg c6] at H
   have c6b0 : (a0_0 == 1) = false := beq_eq_false_iff_ne.mpr c6
   have c6b1 : (a0_0 != 1) = true := bne_iff_ne.mpr c6
   by_cases c23 : a0_0 = 2
   ·
    rw [if_pos c23] at H
    have c23b0 : (a0_0 == 2) = true := beq_iff_eq.mpr c23
    have c23b1 : (a0_0 != 2) = false := bne_eq_false_iff_eq.mpr c23
    clear c23
    simp only [Option.some.injEq, Prod.mk.injEq] at H
    obtain ⟨rfl, rfl, rfl, rfl, rfl, rfl, rfl, rfl⟩ := H
    go_wp2
    refine bodyPost_ret (results_cell_row rfl _ _ gb3 30 #[.int .u32 t4, .int .i64 t5, .slice Ao15 t6.length co15, .slice Ao16 t9.length co16, .int .u32 t12, .int .u32 a0_1, .int .i64 t14, .int .u32 t15] (0, 0) _ rfl (bp8 BK3) Try.underlying30 rfl (by kernel_rfl)) rfl ?_
    exact ⟨_, _, by first | rfl | (simp [errW_none, errW_some] <;> rfl) | (simp [*, errW_none, errW_some] <;> rfl), moR (rW HO8), moR (rW HO11), hbW HB⟩
   ·
    rw [if_neg c23] at H
    have c23b0 : (a0_0 == 2) = false := beq_eq_false_iff_ne.mpr c23
    have c23b1 : (a0_0 != 2) = true := bne_iff_ne.mpr c23
    by_cases c40 : a0_0 = 3
    ·
     rw [if_pos c40] at H
     have c40b0 : (a0_0 == 3) = true := beq_iff_eq.mpr c40
     have c40b1 : (a0_0 != 3) = false := bne_eq_false_iff_eq.mpr c40
     clear c40
     simp only [Option.some.injEq, Prod.mk.injEq] at H
     obtain ⟨rfl, rfl, rfl, rfl, rfl, rfl, rfl, rfl⟩ := H
     go_wp2
     refine bodyPost_ret (results_cell_row rfl _ _ gb3 30 #[.int .u32 t4, .int .i64 t5, .slice Ao15 t6.length co15, .slice Ao16 t9.length co16, .int .u32 t12, .int .u32 t13, .int .i64 (wrap64 (a0_1)), .int .u32 t15] (0, 0) _ rfl (bp8 BK3) Try.underlying30 rfl (by kernel_rfl)) rfl ?_
     exact ⟨_, _, by first | rfl | (simp [errW_none, errW_some] <;> rfl) | (simp [*, errW_none, errW_some] <;> rfl), moR (rW HO8), moR (rW HO11), hbW HB⟩
    ·
     rw [if_neg c40] at H
     have c40b0 : (a0_0 == 3) = false := beq_eq_false_iff_ne.mpr c40
     have c40b1 : (a0_0 != 3) = true := bne_iff_ne.mpr c40
     by_cases c57 : a0_0 = 4
     ·
      rw [if_pos c57] at H
      have c57b0 : (a0_0 == 4) = true := beq_iff_eq.mpr c57
      have c57b1 : (a0_0 != 4) = false := bne_eq_false_iff_eq.mpr c57
      clear c57
      simp only [Option.some.injEq, Prod.mk.injEq] at H
      obtain ⟨rfl, rfl, rfl, rfl, rfl, rfl, rfl, rfl⟩ := H
      go_wp2
      refine bodyPost_ret (results_cell_row rfl _ _ gb3 30 #[.int .u32 t4, .int .i64 t5, .slice Ao15 t6.length co15, .slice Ao16 t9.length co16, .int .u32 t12, .int .u32 t13, .int .i64 t14, .int .u32 a0_1] (0, 0) _ rfl (bp8 BK3) Try.underlying30 rfl (by kernel_rfl)) rfl ?_
      exact ⟨_, _, by first | rfl | (simp [errW_none, errW_some] <;> rfl) | (simp [*, errW_none, errW_some] <;> rfl), moR (rW HO8), moR (rW HO11), hbW HB⟩
     ·
      rw [if_neg c57] at H
      have c57b0 : (a0_0 == 4) = false := beq_eq_false_iff_ne.mpr c57
      have c57b1 : (a0_0 != 4) = true := bne_iff_ne.mpr c57
      by_cases c74 : a0_0 = 5
      ·
       rw [if_pos c74] at H
       have c74b0 : (a0_0 == 5) = true := beq_iff_eq.mpr c74
       have c74b1 : (a0_0 != 5) = false := bne_eq_false_iff_eq.mpr c74
       clear c74
       obtain ⟨y17, hy17⟩ : ∃ y_ : List Int, y_ = (([] : List Int)) := ⟨_, rfl⟩
       replace H : (if y17.length + l0_2.length < 35184372088832 then ((some (y17 ++ l0_2 : List Int)).bind fun y20 => (if y20.length + t6.length < 35184372088832 then (some (t4, t5, (y20 ++ t6), t9, t12, t13, t14, t15)) else (none))) else (none)) = some (r1, r2, r3, r4, r5, r6, r7, r8) := by first | (rw [hy17]; with_reducible exact H) | (have H2_ := (Option.bind_some _ _).symm.trans H; rw [hy17]; with_reducible exact H2_) | (have H2_ := (Option.bind_some _ _).symm.trans H; with_reducible exact H2_) | with_reducible exact H | (rw [hy17]; exact H) | exact H
       have Ny17 := Aside0.mk hy17
       clear hy17
       by_cases c75 : y17.length + l0_2.length < 35184372088832
       ·
        rw [if_pos c75] at H
        have LMc75 := Aside0.mk c75
        clear c75
        obtain ⟨y20, hy20⟩ : ∃ y_ : List Int, y_ = (y17 ++ l0_2) := ⟨_, rfl⟩
        replace H : (if y20.length + t6.length < 35184372088832 then (some (t4, t5, (y20 ++ t6), t9, t12, t13, t14, t15)) else (none)) = some (r1, r2, r3, r4, r5, r6, r7, r8) := by first | (rw [hy20]; with_reducible exact H) | (have H2_ := (Option.bind_some _ _).symm.trans H; rw [hy20]; with_reducible exact H2_) | (have H2_ := (Option.bind_some _ _).symm.trans H; with_reducible exact H2_) | with_reducible exact H | (rw [hy20]; exact H) | exact H
        have Ny20 := Aside0.mk hy20
        clear hy20
        by_cases c76 : y20.length + t6.length < 35184372088832
        ·
         rw [if_pos c76] at H
         have LMc76 := Aside0.mk c76
         clear c76
         obtain ⟨y23, hy23⟩ : ∃ y_ : List Int, y_ = (y20 ++ t6) := ⟨_, rfl⟩
         replace H : (some (t4, t5, y23, t9, t12, t13, t14, t15)) = some (r1, r2, r3, r4, r5, r6, r7, r8) := by first | (rw [hy23]; with_reducible exact H) | (have H2_ := (Option.bind_some _ _).symm.trans H; rw [hy23]; with_reducible exact H2_) | (have H2_ := (Option.bind_some _ _).symm.trans H; with_reducible exact H2_) | with_reducible exact H | (rw [hy23]; exact H) | exact H
         have Ny23 := Aside0.mk hy23
         clear hy23
         simp only [Option.some.injEq, Prod.mk.injEq] at H
         obtain ⟨rfl, rfl, rfl, rfl, rfl, rfl, rfl, rfl⟩ := H
         try go_wp2
         replace HO8 := Aside0.mk (Kd.R_drew HO8.out)
         replace HO11 := Aside0.mk (Kd.R_drew HO11.out)
         replace BK1 := Aside0.mk (blk_drew BK1.out)
         replace BK2 := Aside0.mk (blk_drew BK2.out)
         replace BK3 := Aside0.mk (blk_drew BK3.out)
         replace HB := Aside0.mk (below_drew1 HB.out)
         refine start_ (n := 9) (S := fun w' => w'.cell? ⟨gb1, 0, none⟩ = some (.int .i64 a0_0) ∧ w'.cell? ⟨gb1, 1, none⟩ = some (.int .u32 a0_1) ∧ w'.cell? ⟨gb1, 2, none⟩ = some (.slice A0_2 l0_2.length c0_2) ∧ w'.cell? ⟨gb1, 3, none⟩ = some (.slice A0_3 l0_3.length c0_3) ∧ w'.cell? ⟨gb2, 0, none⟩ = some (.int .u32 t4) ∧ w'.cell? ⟨gb2, 1, none⟩ = some (.int .i64 t5) ∧ w'.cell? ⟨gb2, 2, none⟩ = some (.slice Ao15 t6.length co15) ∧ w'.cell? ⟨gb2, 3, none⟩ = some (.slice Ao16 t9.length co16) ∧ w'.cell? ⟨gb2, 4, none⟩ = some (.int .u32 t12) ∧ w'.cell? ⟨gb2, 5, none⟩ = some (.int .u32 t13) ∧ w'.cell? ⟨gb2, 6, none⟩ = some (.int .i64 t14) ∧ w'.cell? ⟨gb2, 7, none⟩ = some (.int .u32 t15)) (ds := [8]) #[false, false, false, false, false, false, false, false, false] (by kernel_rfl) rfl rfl (bk4 BK1 (bl8 BK2)) (fun hHeld => ?_); refine with_tabW q23z.tab14 q23z.bits14 (fun HT_ HW_ => ?_)
         generalize w19.drew = w91 at HO8 HO11 BK1 BK2 BK3 HB hHeld ⊢
         refine pure_ (i := 1) (N := some 40) (v := ?_) (a' := ?_) #[false, true, false, false, false, false, false, false, false] rfl rfl (any_of HT_.out (by kernel_rfl)) (fun _ _ _ h => h) (Or.inl ⟨by rfl, ?_⟩) ?_ ?_
         rotate_left
         ·
          intro w'
          go_simp
          with_reducible rfl
         rotate_left
         ·
          simp only [Act.put, List.setIfInBounds_toArray, List.set_cons_zero, List.set_cons_succ, i64_w, i32_w, IntKind.wrap_u32]
          rfl
         refine pure_ (i := 4) (N := some 43) (v := ?_) (a' := ?_) #[false, true, false, false, true, false, false, false, false] rfl rfl (any_of HT_.out (by kernel_rfl)) (fun _ _ _ h => h) (Or.inl ⟨by rfl, ?_⟩) ?_ ?_
         rotate_left
         ·
          intro w'
          go_simp
          with_reducible rfl
         rotate_left
         ·
          simp only [Act.put, List.setIfInBounds_toArray, List.set_cons_zero, List.set_cons_succ, i64_w, i32_w, IntKind.wrap_u32]
          rfl
         refine take_ (i := 2) (N := some 41) (v := ?_) (a' := ?_) #[false, true, true, false, true, false, false, false, false] rfl rfl (take_ofW HT_.out HW_.out (by kernel_rfl)) (fun _ _ _ h => h) (Or.inl ⟨by rfl, ?_⟩) hHeld ?_ ?_
         rotate_left
         ·
          rintro w' ⟨s0, s1, s2, s3, s4, s5, s6, s7, s8, s9, s10, s11⟩
          go_simp
          with_reducible rfl
         rotate_left
         ·
          simp only [Act.put, List.setIfInBounds_toArray, List.set_cons_zero, List.set_cons_succ, i64_w, i32_w, IntKind.wrap_u32]
          rfl
         refine take_ (i := 5) (N := some 44) (v := ?_) (a' := ?_) #[false, true, true, false, true, true, false, false, false] rfl rfl (take_ofW HT_.out HW_.out (by kernel_rfl)) (fun _ _ _ h => h) (Or.inl ⟨by rfl, ?_⟩) hHeld ?_ ?_
         rotate_left
         ·
          rintro w' ⟨s0, s1, s2, s3, s4, s5, s6, s7, s8, s9, s10, s11⟩
          go_simp
          with_reducible rfl
         rotate_left
         ·
          simp only [Act.put, List.setIfInBounds_toArray, List.set_cons_zero, List.set_cons_succ, i64_w, i32_w, IntKind.wrap_u32]
          rfl
         refine one_ (i := 0) (N := some 39) #[true, true, true, false, true, true, false, false, false] rfl rfl (one_of HT_.out (by kernel_rfl)) (by decide) (fun K hK => ?_)
         refine Kd.R_lit_step (Kd.int .u32) _ 22 ?hg (N := 39) ?hd (xs := ([] : List Int)) (inner := []) (ok := fun _ => True) (okp := fun _ => True) ?hr ?hp (fun _ hk => hk) trivial (Below.refl _ _) (Nat.le_refl _) (by simp) ?_; (case hd => rfl); (case hg => rfl); (case hr => first | (go_simp; done) | (go_simp; rfl)); (case hp => exact (Reps.none _ _))
         intro v18 w92 ho93 hb hg_ hnew_
         clear hg_ hnew_
         (first | rw [← Ny17.out] at ho93 | (simp only [Int.reduceToNat] at ho93; rw [← Ny17.out] at ho93))
         have HO19 := Aside0.mk (Kd.R_lower (Kd.R_new' (Kd.R_new' ho93 (Kd.R_lt (rW HO8))) (Kd.R_lt (rW HO11))) (below_size (hbW HB)))
         replace HO8 := Aside0.mk (Kd.R_elder' (rW HO8) (Kd.R_base ho93) hb)
         replace HO11 := Aside0.mk (Kd.R_elder' (rW HO11) (Kd.R_base ho93) hb)
         replace BK1 := bkB BK1 hb
         replace BK2 := bkB BK2 hb
         replace BK3 := bkB BK3 hb
         replace HB := hbS HB hb
         clear hb ho93
         refine hK.out _ _ (bk4 BK1 (bl8 BK2)) (fun hHeld => ?_)
         clear hK K
         refine norm_ (a' := ?_) ?_ ?_
         rotate_left
         ·
          show Act.put _ (some 39) _ = _
          simp only [Act.put, List.setIfInBounds_toArray, List.set_cons_zero, List.set_cons_succ, i64_w, i32_w, IntKind.wrap_u32]
          rfl
         refine one_ (i := 3) (N := some 42) #[true, true, true, true, true, true, false, false, false] rfl rfl (one_of HT_.out (by kernel_rfl)) (by decide) (fun K hK => ?_)
         refine Kd.R_append_rows_step (Kd.int .u32) (w0 := w) w.heap.size (by rfl) (.tmp 39) (.tmp 41) 23 22 (.int .u32 0) 4 rfl Try.underlying23 info22 rfl (by decide) (by omega) v18 y17 l0_2 _ _ _ (fun k_ => some k_ ≠ (.slice Ao15 t6.length co15 : Value).ownBlock ∧ some k_ ≠ (.slice Ao16 t9.length co16 : Value).ownBlock) (fun _ => False) rfl rfl ?aO ?aR (fun _ _ h => h) (fun _ h => h.elim) ?aF ?aB ?aS ?aL ?_
         (case aR => repeat (first | exact (Kd.C_below HR0_2.out HB.out) | (with_reducible refine Kd.C_alloc ?_ _) | (with_reducible refine Kd.C_drewN ?_ _) | (with_reducible refine Kd.C_drew ?_)))
         (case aB => exact (hbW HB))
         (case aF => exact (fun k_ hk => ⟨Kd.fresh' (Kd.R_lt (rW HO8)) k_ hk, Kd.fresh' (Kd.R_lt (rW HO11)) k_ hk⟩))
         (case aO => exact (by (with_reducible repeat (first | apply Kd.R_alloc | apply Kd.R_drewN | apply Kd.R_drew)); exact Kd.R_mono HO19.out (fun _ hk => ⟨hk.1.2, hk.2⟩)))
         (case aS => exact (below_size (hbW HB)))
         (case aL => have := LMc75.out; omega)
         intro v21 w94 ho hb hg hat
         rw [← Ny20.out] at ho
         have n0_ := Aside0.mk (blk_grown (g := gb1) (o := .cells #[.int .i64 a0_0, .int .u32 a0_1, .slice A0_2 l0_2.length c0_2, .slice A0_3 l0_3.length c0_3] 26 (0, 0)) (bkW BK1) hg (Kd.R_ne HO19.out BK1.out (by decide)))
         have n1_ := Aside0.mk (blk_grown (g := gb2) (o := .cells #[.int .u32 t4, .int .i64 t5, .slice Ao15 t6.length co15, .slice Ao16 t9.length co16, .int .u32 t12, .int .u32 t13, .int .i64 t14, .int .u32 t15] 30 (0, 0)) (bkW BK2) hg (Kd.R_ne HO19.out BK2.out (by decide)))
         have n2_ := Aside0.mk (blk_grown (g := gb3) (o := .cells #[.int .u32 0, .int .i64 0, .slice none 0 0, .slice none 0 0, .int .u32 0, .int .u32 0, .int .i64 0, .int .u32 0] 30 (0, 0)) (bkW BK3) hg (Kd.R_ne HO19.out BK3.out (by decide)))
         have n3_ := Aside0.mk (Kd.R_after (ok := (fun k_ => some k_ ≠ (.slice Ao16 t9.length co16 : Value).ownBlock)) (rW HO8) hg hat)
         have n4_ := Aside0.mk (Kd.R_after (ok := (fun k_ => some k_ ≠ (.slice Ao15 t6.length co15 : Value).ownBlock)) (rW HO11) hg hat)
         have n5_ := Aside0.mk (hb)
         have n6_ := Aside0.mk (ho)
         clear BK1 BK2 BK3 HO8 HO11 HB HO19
         have BK1 := n0_
         have BK2 := n1_
         have BK3 := n2_
         have HO8 := n3_
         have HO11 := n4_
         have HB := n5_
         have HO22 := n6_
         clear n0_ n1_ n2_ n3_ n4_ n5_ n6_ ho hb hg hat
         refine hK.out _ _ (bk4 BK1 (bl8 BK2)) (fun hHeld => ?_)
         clear hK K
         refine norm_ (a' := ?_) ?_ ?_
         rotate_left
         ·
          show Act.put _ (some 42) _ = _
          simp only [Act.put, List.setIfInBounds_toArray, List.set_cons_zero, List.set_cons_succ, i64_w, i32_w, IntKind.wrap_u32]
          rfl
         refine one_ (i := 6) (N := some 45) #[true, true, true, true, true, true, true, false, false] rfl rfl (one_of HT_.out (by kernel_rfl)) (by decide) (fun K hK => ?_)
         refine Kd.R_append_rows_step (Kd.int .u32) (w0 := w) w.heap.size (by rfl) (.tmp 42) (.tmp 44) 23 22 (.int .u32 0) 4 rfl Try.underlying23 info22 rfl (by decide) (by omega) v21 y20 t6 _ _ _ (fun k_ => some k_ ≠ (.slice Ao15 t6.length co15 : Value).ownBlock ∧ some k_ ≠ (.slice Ao16 t9.length co16 : Value).ownBlock) (fun _ => False) rfl rfl ?aO ?aR (fun _ _ h => h) (fun _ h => h.elim) ?aF ?aB ?aS ?aL ?_
         (case aR => repeat (first | exact (Kd.R_reads' HO8.out).2.2 | (with_reducible refine Kd.C_alloc ?_ _) | (with_reducible refine Kd.C_drewN ?_ _) | (with_reducible refine Kd.C_drew ?_)))
         (case aB => exact (hbW HB))
         (case aF => exact (fun k_ hk => ⟨Kd.fresh' (Kd.R_lt (rW HO8)) k_ hk, Kd.fresh' (Kd.R_lt (rW HO11)) k_ hk⟩))
         (case aO => exact (rW HO22))
         (case aS => exact (below_size (hbW HB)))
         (case aL => have := LMc76.out; omega)
         intro v24 w95 ho hb hg hat
         rw [← Ny23.out] at ho
         have n0_ := Aside0.mk (blk_grown (g := gb1) (o := .cells #[.int .i64 a0_0, .int .u32 a0_1, .slice A0_2 l0_2.length c0_2, .slice A0_3 l0_3.length c0_3] 26 (0, 0)) (bkW BK1) hg (Kd.R_ne HO22.out BK1.out (by decide)))
         have n1_ := Aside0.mk (blk_grown (g := gb2) (o := .cells #[.int .u32 t4, .int .i64 t5, .slice Ao15 t6.length co15, .slice Ao16 t9.length co16, .int .u32 t12, .int .u32 t13, .int .i64 t14, .int .u32 t15] 30 (0, 0)) (bkW BK2) hg (Kd.R_ne HO22.out BK2.out (by decide)))
         have n2_ := Aside0.mk (blk_grown (g := gb3) (o := .cells #[.int .u32 0, .int .i64 0, .slice none 0 0, .slice none 0 0, .int .u32 0, .int .u32 0, .int .i64 0, .int .u32 0] 30 (0, 0)) (bkW BK3) hg (Kd.R_ne HO22.out BK3.out (by decide)))
         have n3_ := Aside0.mk (Kd.R_after (ok := (fun k_ => some k_ ≠ (.slice Ao16 t9.length co16 : Value).ownBlock)) (rW HO8) hg hat)
         have n4_ := Aside0.mk (Kd.R_after (ok := (fun k_ => some k_ ≠ (.slice Ao15 t6.length co15 : Value).ownBlock)) (rW HO11) hg hat)
         have n5_ := Aside0.mk (hb)
         have n6_ := Aside0.mk (ho)
         clear BK1 BK2 BK3 HO8 HO11 HB HO22
         have BK1 := n0_
         have BK2 := n1_
         have BK3 := n2_
         have HO8 := n3_
         have HO11 := n4_
         have HB := n5_
         have HO25 := n6_
         clear n0_ n1_ n2_ n3_ n4_ n5_ n6_ ho hb hg hat
         obtain ⟨Ao96, co96, eo96⟩ := Kd.R_slice HO25.out
         (first | subst eo96 | (injection eo96 with f1_ f2_ f3_; have f4_ := f1_.symm; have f5_ := f3_.symm; clear f1_ f2_ f3_; subst f4_; subst f5_))
         refine hK.out _ _ (bk4 BK1 (bl8 BK2)) (fun hHeld => ?_)
         clear hK K
         refine norm_ (a' := ?_) ?_ ?_
         rotate_left
         ·
          show Act.put _ (some 45) _ = _
          simp only [Act.put, List.setIfInBounds_toArray, List.set_cons_zero, List.set_cons_succ, i64_w, i32_w, IntKind.wrap_u32]
          rfl
         refine pure_ (i := 7) (N := some 46) (v := ?_) (a' := ?_) #[true, true, true, true, true, true, true, true, false] rfl rfl (any_of HT_.out (by kernel_rfl)) (fun _ _ _ h => h) (Or.inl ⟨by rfl, ?_⟩) ?_ ?_
         rotate_left
         ·
          intro w'
          go_simp
          with_reducible rfl
         rotate_left
         ·
          simp only [Act.put, List.setIfInBounds_toArray, List.set_cons_zero, List.set_cons_succ, i64_w, i32_w, IntKind.wrap_u32]
          rfl
         refine last_ (i := 8) (N := none) #[true, true, true, true, true, true, true, true, true] rfl rfl (one_of HT_.out (by kernel_rfl)) (by decide) (fun K hK => ?_)
         have hs97 : w95.cell? ⟨gb2, 2, none⟩ = some (.slice Ao15 t6.length co15) := (blk_cell BK2.out 2).trans rfl
         have hfs97 := blk_frozen BK2.out 2
         have hns97_0 := NB1_2.out
         have hns97_2 := NB3_2.out
         have hms97_0 := NB2_1.out
         have hms97_2 := NB2_3.out
         refine skip_ (w1 := ?_) (by rfl) rfl ?_ ?_
         rotate_left
         ·
          go_simp
          rfl
         refine hK.out _ _ ?_
         clear hK K
         refine done_ (done_of HT_.out (by kernel_rfl)) ?_
         obtain ⟨hcz98_0, hcz98_1, hcz98_2, hcz98_3, hcz98_4, hcz98_5, hcz98_6, hcz98_7, hfz98_0, hfz98_1, hfz98_2, hfz98_3, hfz98_4, hfz98_5, hfz98_6, hfz98_7⟩ := bc8 BK2
         obtain ⟨hcz99_0, hcz99_1, hcz99_2, hcz99_3, hcz99_4, hcz99_5, hcz99_6, hcz99_7, hfz99_0, hfz99_1, hfz99_2, hfz99_3, hfz99_4, hfz99_5, hfz99_6, hfz99_7⟩ := bc8 BK3
         try go_wp2
         refine bodyPost_ret (results_cell_row rfl _ _ gb3 30 #[.int .u32 t4, .int .i64 t5, .slice Ao96 y23.length co96, .slice Ao16 t9.length co16, .int .u32 t12, .int .u32 t13, .int .i64 t14, .int .u32 t15] (0, 0) _ rfl (bp8 BK3) Try.underlying30 rfl (by kernel_rfl)) rfl ?_
         exact ⟨_, _, by first | rfl | (simp [errW_none, errW_some] <;> rfl) | (simp [*, errW_none, errW_some] <;> rfl), moR (rW HO25), moR (rW HO11), hbW HB⟩
        ·
         rw [if_neg c76] at H
         exact absurd H (by simp)
       ·
        rw [if_neg c75] at H
        exact absurd H (by simp)
      ·
       rw [if_neg c74] at H
       have c74b0 : (a0_0 == 5) = false := beq_eq_false_iff_ne.mpr c74
       have c74b1 : (a0_0 != 5) = true := bne_iff_ne.mpr c74
       by_cases c100 : a0_0 = 6
       ·
        rw [if_pos c100] at H
        have c100b0 : (a0_0 == 6) = true := beq_iff_eq.mpr c100
        have c100b1 : (a0_0 != 6) = false := bne_eq_false_iff_eq.mpr c100
        clear c100
        by_cases c101 : t9.length + l0_2.length < 35184372088832
        ·
         rw [if_pos c101] at H
         have LMc101 := Aside0.mk c101
         clear c101
         obtain ⟨y26, hy26⟩ : ∃ y_ : List Int, y_ = (t9 ++ l0_2) := ⟨_, rfl⟩
         replace H : ((q22z.f k y26).bind fun t29 => (some (t4, t5, t6, t29, t12, t13, t14, t15))) = some (r1, r2, r3, r4, r5, r6, r7, r8) := by first | (rw [hy26]; with_reducible exact H) | (have H2_ := (Option.bind_some _ _).symm.trans H; rw [hy26]; with_reducible exact H2_) | (have H2_ := (Option.bind_some _ _).symm.trans H; with_reducible exact H2_) | with_reducible exact H | (rw [hy26]; exact H) | exact H
         have Ny26 := Aside0.mk hy26
         clear hy26
         replace H := Option.bind_eq_some_iff.mp H
         obtain ⟨t29, A1020, H⟩ := H
         replace H : (some (t4, t5, t6, t29, t12, t13, t14, t15)) = some (r1, r2, r3, r4, r5, r6, r7, r8) := H
         have A102 := Aside0.mk A1020
         clear A1020
         simp only [Option.some.injEq, Prod.mk.injEq] at H
         obtain ⟨rfl, rfl, rfl, rfl, rfl, rfl, rfl, rfl⟩ := H
         go_wp2_with (first | ((with_reducible refine gate_builtin (b := .append) (xs := #[.tmp 50, .tmp 52]) rfl ?_); at_builtin; refine Kd.R_append_rows (Kd.int .u32) (w0 := w) w.heap.size rfl (.tmp 50) (.tmp 52) 23 22 (.int .u32 0) 4 rfl Try.underlying23 info22 rfl (by decide) (by omega) (.slice Ao16 t9.length co16) t9 l0_2 _ _ _ (fun k_ => some k_ ≠ (.slice Ao15 t6.length co15 : Value).ownBlock) (fun _ => False) rfl rfl ?aO ?aR (fun _ _ h => h) (fun _ h => h.elim) ?aF ?aB ?aS ?aL ?_; (case aR => repeat (first | exact (Kd.C_below HR0_2.out HB.out) | (with_reducible refine Kd.C_alloc ?_ _) | (with_reducible refine Kd.C_drewN ?_ _) | (with_reducible refine Kd.C_drew ?_))); (case aB => exact (hbW HB)); (case aF => exact (fun k_ hk => Kd.fresh' (Kd.R_lt (rW HO8)) k_ hk)); (case aO => exact (rW HO11)); (case aS => exact (below_size (hbW HB))); (case aL => have := LMc101.out; omega); intro v27 w118 ho hb hg hat; rw [← Ny26.out] at ho; have n0_ := Aside0.mk (blk_grown (g := gb1) (o := .cells #[.int .i64 a0_0, .int .u32 a0_1, .slice A0_2 l0_2.length c0_2, .slice A0_3 l0_3.length c0_3] 26 (0, 0)) (bkW BK1) hg (Kd.R_ne HO11.out BK1.out (by decide))); have n1_ := Aside0.mk (blk_grown (g := gb2) (o := .cells #[.int .u32 t4, .int .i64 t5, .slice Ao15 t6.length co15, .slice Ao16 t9.length co16, .int .u32 t12, .int .u32 t13, .int .i64 t14, .int .u32 t15] 30 (0, 0)) (bkW BK2) hg (Kd.R_ne HO11.out BK2.out (by decide))); have n2_ := Aside0.mk (blk_grown (g := gb3) (o := .cells #[.int .u32 0, .int .i64 0, .slice none 0 0, .slice none 0 0, .int .u32 0, .int .u32 0, .int .i64 0, .int .u32 0] 30 (0, 0)) (bkW BK3) hg (Kd.R_ne HO11.out BK3.out (by decide))); have n3_ := Aside0.mk (Kd.R_after (ok := (fun _ => True)) (by (with_reducible repeat (first | apply Kd.R_alloc | apply Kd.R_drewN | apply Kd.R_drew)); exact Kd.R_mono HO8.out (fun _ hk => ⟨trivial, hk⟩)) hg hat); have n4_ := Aside0.mk (hb); have n5_ := Aside0.mk (ho); clear BK1; clear BK2; clear BK3; clear HO8; clear HB; clear HO11; have BK1 := n0_; have BK2 := n1_; have BK3 := n2_; have HO8 := n3_; have HB := n4_; have HO28 := n5_; clear n0_ n1_ n2_ n3_ n4_ n5_; clear ho hb hg hat; obtain ⟨Ao119, co119, eo119⟩ := Kd.R_slice HO28.out; subst eo119) | ((with_reducible refine gate_callee (f := 37) rfl ?_); refine goesL_ (some 54) rfl rfl Try.func37 (by kernel_rfl) rfl #[.slice Ao119 y26.length co119] rfl (by (try simp only [List.map_toArray, List.map_cons, List.map_nil]); first | done | rfl | (simp only [List.length_drop, List.length_take]; rfl)) ?_; (with_reducible refine (q22z.calls k _ _ y26 t29 _ ?side1 ?side2 A102.out).mono ?_); (case side1 => repeat (first | exact (Kd.R_reads' HO28.out).2.2 | (with_reducible refine Kd.C_alloc ?_ _) | (with_reducible refine Kd.C_drewN ?_ _) | (with_reducible refine Kd.C_drew ?_))); (case side2 => exact (Kd.R_reads' HO28.out).2.1); rintro e w120 ⟨v30, rfl, ho0, hb⟩; refine ⟨_, rfl, ?_⟩; have HO31 := Aside0.mk (Kd.R_lower (Kd.R_new' (Kd.R_new' ho0 (Kd.R_lt (rW HO8))) (Kd.R_lt (rW HO28))) (below_size (hbW HB))); replace HO8 := Aside0.mk (Kd.R_elder' (rW HO8) (Kd.R_base ho0) hb); replace HO28 := Aside0.mk (Kd.R_elder' (rW HO28) (Kd.R_base ho0) hb); replace BK1 := bkB BK1 hb; replace BK2 := bkB BK2 hb; replace BK3 := bkB BK3 hb; replace HB := hbS HB hb; (try clear hb); (try clear hk); (try clear ho0); obtain ⟨Ao121, co121, eo121⟩ := Kd.R_slice HO31.out; subst eo121; obtain ⟨hcz122_0, hcz122_1, hcz122_2, hcz122_3, hcz122_4, hcz122_5, hcz122_6, hcz122_7, hfz122_0, hfz122_1, hfz122_2, hfz122_3, hfz122_4, hfz122_5, hfz122_6, hfz122_7⟩ := bc8 BK2; obtain ⟨hcz123_0, hcz123_1, hcz123_2, hcz123_3, hcz123_4, hcz123_5, hcz123_6, hcz123_7, hfz123_0, hfz123_1, hfz123_2, hfz123_3, hfz123_4, hfz123_5, hfz123_6, hfz123_7⟩ := bc8 BK3))
         refine bodyPost_ret (results_cell_row rfl _ _ gb3 30 #[.int .u32 t4, .int .i64 t5, .slice Ao15 t6.length co15, .slice Ao121 t29.length co121, .int .u32 t12, .int .u32 t13, .int .i64 t14, .int .u32 t15] (0, 0) _ rfl (bp8 BK3) Try.underlying30 rfl (by kernel_rfl)) rfl ?_
         exact ⟨_, _, by first | rfl | (simp [errW_none, errW_some] <;> rfl) | (simp [*, errW_none, errW_some] <;> rfl), moR (rW HO8), moR (rW HO31), hbW HB⟩
        ·
         rw [if_neg c101] at H
         exact absurd H (by simp)
       ·
        rw [if_neg c100] at H
        have c100b0 : (a0_0 == 6) = false := beq_eq_false_iff_ne.mpr c100
        have c100b1 : (a0_0 != 6) = true := bne_iff_ne.mpr c100
        by_cases c124 : a0_0 = 7
        ·
         rw [if_pos c124] at H
         have c124b0 : (a0_0 == 7) = true := beq_iff_eq.mpr c124
         have c124b1 : (a0_0 != 7) = false := bne_eq_false_iff_eq.mpr c124
         clear c124
         replace H := Option.bind_eq_some_iff.mp H
         obtain ⟨t32, A1250, H⟩ := H
         replace H : (some (t4, t5, t6, t32, t12, t13, t14, t15)) = some (r1, r2, r3, r4, r5, r6, r7, r8) := H
         have A125 := Aside0.mk A1250
         clear A1250
         simp only [Option.some.injEq, Prod.mk.injEq] at H
         obtain ⟨rfl, rfl, rfl, rfl, rfl, rfl, rfl, rfl⟩ := H
         go_wp2_with (first | ((with_reducible refine gate_callee (f := 37) rfl ?_); refine goesL_ (some 60) rfl rfl Try.func37 (by kernel_rfl) rfl #[.slice A0_2 l0_2.length c0_2] rfl (by (try simp only [List.map_toArray, List.map_cons, List.map_nil]); first | done | rfl | (simp only [List.length_drop, List.length_take]; rfl)) ?_; (with_reducible refine (q22z.calls k _ _ l0_2 t32 _ ?side1 ?side2 A125.out).mono ?_); (case side1 => repeat (first | exact (Kd.C_below HR0_2.out HB.out) | (with_reducible refine Kd.C_alloc ?_ _) | (with_reducible refine Kd.C_drewN ?_ _) | (with_reducible refine Kd.C_drew ?_))); (case side2 => exact HC0_2.out); rintro e w140 ⟨v33, rfl, ho0, hb⟩; refine ⟨_, rfl, ?_⟩; have HO34 := Aside0.mk (Kd.R_lower (Kd.R_new' (Kd.R_new' ho0 (Kd.R_lt (rW HO8))) (Kd.R_lt (rW HO11))) (below_size (hbW HB))); replace HO8 := Aside0.mk (Kd.R_elder' (rW HO8) (Kd.R_base ho0) hb); replace HO11 := Aside0.mk (Kd.R_elder' (rW HO11) (Kd.R_base ho0) hb); replace BK1 := bkB BK1 hb; replace BK2 := bkB BK2 hb; replace BK3 := bkB BK3 hb; replace HB := hbS HB hb; (try clear hb); (try clear ho0); obtain ⟨Ao141, co141, eo141⟩ := Kd.R_slice HO34.out; subst eo141; obtain ⟨hcz142_0, hcz142_1, hcz142_2, hcz142_3, hcz142_4, hcz142_5, hcz142_6, hcz142_7, hfz142_0, hfz142_1, hfz142_2, hfz142_3, hfz142_4, hfz142_5, hfz142_6, hfz142_7⟩ := bc8 BK2; obtain ⟨hcz143_0, hcz143_1, hcz143_2, hcz143_3, hcz143_4, hcz143_5, hcz143_6, hcz143_7, hfz143_0, hfz143_1, hfz143_2, hfz143_3, hfz143_4, hfz143_5, hfz143_6, hfz143_7⟩ := bc8 BK3))
         refine bodyPost_ret (results_cell_row rfl _ _ gb3 30 #[.int .u32 t4, .int .i64 t5, .slice Ao15 t6.length co15, .slice Ao141 t32.length co141, .int .u32 t12, .int .u32 t13, .int .i64 t14, .int .u32 t15] (0, 0) _ rfl (bp8 BK3) Try.underlying30 rfl (by kernel_rfl)) rfl ?_
         exact ⟨_, _, by first | rfl | (simp [errW_none, errW_some] <;> rfl) | (simp [*, errW_none, errW_some] <;> rfl), moR (rW HO8), moR (rW HO34), hbW HB⟩
        ·
         rw [if_neg c124] at H
         have c124b0 : (a0_0 == 7) = false := beq_eq_false_iff_ne.mpr c124
         have c124b1 : (a0_0 != 7) = true := bne_iff_ne.mpr c124
         by_cases c144 : a0_0 = 8
         ·
          rw [if_pos c144] at H
          have c144b0 : (a0_0 == 8) = true := beq_iff_eq.mpr c144
          have c144b1 : (a0_0 != 8) = false := bne_eq_false_iff_eq.mpr c144
          clear c144
          have H' := Aside0.mk H
          clear H
          go_wp2
          go_loopg [5, 67] k (fun kq v5 v67 w' => ∃ (x5_1 : List Int) (x67_1 : Int), v67 = .int .i64 x67_1 ∧ Aside0 (q23z.l0 kq x5_1 t9 (t9.length : Int) x67_1 a0_0 a0_1 l0_2 l0_3 t4 t5 t6 t9 t12 t13 t14 t15 = some (r1, r2, r3, r4, r5, r6, r7, r8)) ∧ Aside0 (kq ≤ k) ∧ Aside0 (Kd.R (Kd.int .u32) 22 w' w.heap.size (fun k_ => some k_ ≠ ((.slice Ao16 t9.length co16) : Value).ownBlock ∧ some k_ ≠ ((.slice Ao15 t6.length co15) : Value).ownBlock ∧ some k_ ≠ ((.slice Ao16 t9.length co16) : Value).ownBlock) v5 x5_1) ∧ Aside0 (Kd.R (Kd.int .u32) 22 w' w.heap.size (fun k_ => some k_ ≠ (v5 : Value).ownBlock ∧ some k_ ≠ ((.slice Ao15 t6.length co15) : Value).ownBlock) (.slice Ao16 t9.length co16) t9) ∧ Aside0 (Kd.R (Kd.int .u32) 22 w' w.heap.size (fun k_ => some k_ ≠ (v5 : Value).ownBlock ∧ some k_ ≠ ((.slice Ao16 t9.length co16) : Value).ownBlock ∧ some k_ ≠ ((.slice Ao16 t9.length co16) : Value).ownBlock) (.slice Ao15 t6.length co15) t6) ∧ Aside0 (Kd.R (Kd.int .u32) 22 w' w.heap.size (fun k_ => some k_ ≠ (v5 : Value).ownBlock ∧ some k_ ≠ ((.slice Ao15 t6.length co15) : Value).ownBlock) (.slice Ao16 t9.length co16) t9) ∧ Aside0 (w'.heap[gb1]? = some (.cells #[.int .i64 a0_0, .int .u32 a0_1, (.slice A0_2 l0_2.length c0_2), (.slice A0_3 l0_3.length c0_3)] 26 (0, 0))) ∧ Aside0 (w'.heap[gb2]? = some (.cells #[.int .u32 t4, .int .i64 t5, (.slice Ao15 t6.length co15), (.slice Ao16 t9.length co16), .int .u32 t12, .int .u32 t13, .int .i64 t14, .int .u32 t15] 30 (0, 0))) ∧ Aside0 (w'.heap[gb3]? = some (.cells #[.int .u32 0, .int .i64 0, (.slice none 0 0), (.slice none 0 0), .int .u32 0, .int .u32 0, .int .i64 0, .int .u32 0] 30 (0, 0))) ∧ Aside0 (Below w.heap.size w w'))
          case atStart => exact ⟨(([] : List Int)), (0), (by first | rfl | (simp; done) | (simp [*]; done)), H', ⟨Nat.le_refl _⟩, ⟨by first | exact Kd.R_nil _ _ _ _ _ | exact Kd.N_nil _ _ _ _ _ | exact Kd.V_nil _ _ _ _ _ | exact Kd.Q_nil _ _ _ _ _ | exact Kd.S_nil _ _ _ _ _⟩, ⟨by (with_reducible repeat (first | apply Kd.R_alloc | apply Kd.R_drewN | apply Kd.R_drew)); exact Kd.R_mono HO11.out (fun _ hk => ⟨(by simp [Value.ownBlock]), hk⟩)⟩, ⟨by (with_reducible repeat (first | apply Kd.R_alloc | apply Kd.R_drewN | apply Kd.R_drew)); exact Kd.R_mono HO8.out (fun _ hk => ⟨(by simp [Value.ownBlock]), ⟨hk, hk⟩⟩)⟩, ⟨by (with_reducible repeat (first | apply Kd.R_alloc | apply Kd.R_drewN | apply Kd.R_drew)); exact Kd.R_mono HO11.out (fun _ hk => ⟨(by simp [Value.ownBlock]), hk⟩)⟩, ⟨by (with_reducible repeat (first | refine blk_drewN ?_ _ | refine blk_drew ?_ | refine blk_alloc ?_ _)); exact BK1.out⟩, ⟨by (with_reducible repeat (first | refine blk_drewN ?_ _ | refine blk_drew ?_ | refine blk_alloc ?_ _)); exact BK2.out⟩, ⟨by (with_reducible repeat (first | refine blk_drewN ?_ _ | refine blk_drew ?_ | refine blk_alloc ?_ _)); exact BK3.out⟩, ⟨hbW HB⟩⟩
          case round =>
           clear H'
           try clear c1
           try clear c2
           try clear p2
           try clear c3
           try clear c4
           try clear c5
           try clear c6
           try clear c6b0
           try clear c6b1
           try clear p6
           try clear c7
           try clear c8
           try clear c10
           try clear c11
           try clear c12
           try clear c13
           try clear c14
           try clear c15
           try clear c17
           try clear c23
           try clear c23b0
           try clear c23b1
           try clear c27
           try clear c28
           try clear c34
           try clear c37
           try clear c40
           try clear c40b0
           try clear c40b1
           try clear c44
           try clear c45
           try clear c51
           try clear c57
           try clear c57b0
           try clear c57b1
           try clear c61
           try clear c62
           try clear p64
           try clear c68
           try clear c74
           try clear c74b0
           try clear c74b1
           try clear c75
           try clear c76
           try clear c80
           try clear c81
           try clear c87
           try clear c100
           try clear c100b0
           try clear c100b1
           try clear c101
           try clear c106
           try clear c107
           try clear c113
           try clear c124
           try clear c124b0
           try clear c124b1
           try clear c129
           try clear c130
           try clear c136
           try clear c144
           try clear c144b0
           try clear c144b1
           try clear c148
           try clear c149
           try clear c155
           try clear hcz108_0 hcz108_1 hcz108_2 hcz108_3 hcz108_4 hcz108_5 hcz108_6 hcz108_7
           try clear hcz110_0 hcz110_1 hcz110_2 hcz110_3 hcz110_4 hcz110_5 hcz110_6 hcz110_7
           try clear hcz114_0 hcz114_1 hcz114_2 hcz114_3
           try clear hcz116_0 hcz116_1 hcz116_2 hcz116_3
           try clear hcz117_0 hcz117_1 hcz117_2 hcz117_3 hcz117_4 hcz117_5 hcz117_6 hcz117_7
           try clear hcz122_0 hcz122_1 hcz122_2 hcz122_3 hcz122_4 hcz122_5 hcz122_6 hcz122_7
           try clear hcz123_0 hcz123_1 hcz123_2 hcz123_3 hcz123_4 hcz123_5 hcz123_6 hcz123_7
           try clear hcz12_0 hcz12_1 hcz12_2 hcz12_3 hcz12_4 hcz12_5 hcz12_6 hcz12_7
           try clear hcz131_0 hcz131_1 hcz131_2 hcz131_3 hcz131_4 hcz131_5 hcz131_6 hcz131_7
           try clear hcz133_0 hcz133_1 hcz133_2 hcz133_3 hcz133_4 hcz133_5 hcz133_6 hcz133_7
           try clear hcz137_0 hcz137_1 hcz137_2 hcz137_3
           try clear hcz139_0 hcz139_1 hcz139_2 hcz139_3
           try clear hcz142_0 hcz142_1 hcz142_2 hcz142_3 hcz142_4 hcz142_5 hcz142_6 hcz142_7
           try clear hcz143_0 hcz143_1 hcz143_2 hcz143_3 hcz143_4 hcz143_5 hcz143_6 hcz143_7
           try clear hcz14_0 hcz14_1 hcz14_2 hcz14_3 hcz14_4 hcz14_5 hcz14_6 hcz14_7
           try clear hcz150_0 hcz150_1 hcz150_2 hcz150_3 hcz150_4 hcz150_5 hcz150_6 hcz150_7
           try clear hcz14_0 hcz14_1 hcz14_2 hcz14_3 hcz14_4 hcz14_5 hcz14_6 hcz14_7
           try clear hcz156_0 hcz156_1 hcz156_2 hcz156_3
           try clear hcz158_0 hcz158_1 hcz158_2 hcz158_3
           try clear hcz159_0 hcz159_1 hcz159_2 hcz159_3 hcz159_4 hcz159_5 hcz159_6 hcz159_7
           try clear hcz18_0 hcz18_1 hcz18_2 hcz18_3
           try clear hcz20_0 hcz20_1 hcz20_2 hcz20_3
           try clear hcz21_0 hcz21_1 hcz21_2 hcz21_3 hcz21_4 hcz21_5 hcz21_6 hcz21_7
           try clear hcz22_0 hcz22_1 hcz22_2 hcz22_3 hcz22_4 hcz22_5 hcz22_6 hcz22_7
           try clear hcz29_0 hcz29_1 hcz29_2 hcz29_3 hcz29_4 hcz29_5 hcz29_6 hcz29_7
           try clear hcz31_0 hcz31_1 hcz31_2 hcz31_3 hcz31_4 hcz31_5 hcz31_6 hcz31_7
           try clear hcz35_0 hcz35_1 hcz35_2 hcz35_3
           try clear hcz37_0 hcz37_1 hcz37_2 hcz37_3
           try clear hcz38_0 hcz38_1 hcz38_2 hcz38_3 hcz38_4 hcz38_5 hcz38_6 hcz38_7
           try clear hcz39_0 hcz39_1 hcz39_2 hcz39_3 hcz39_4 hcz39_5 hcz39_6 hcz39_7
           try clear hcz46_0 hcz46_1 hcz46_2 hcz46_3 hcz46_4 hcz46_5 hcz46_6 hcz46_7
           try clear hcz48_0 hcz48_1 hcz48_2 hcz48_3 hcz48_4 hcz48_5 hcz48_6 hcz48_7
           try clear hcz52_0 hcz52_1 hcz52_2 hcz52_3
           try clear hcz54_0 hcz54_1 hcz54_2 hcz54_3
           try clear hcz55_0 hcz55_1 hcz55_2 hcz55_3 hcz55_4 hcz55_5 hcz55_6 hcz55_7
           try clear hcz56_0 hcz56_1 hcz56_2 hcz56_3 hcz56_4 hcz56_5 hcz56_6 hcz56_7
           try clear hcz63_0 hcz63_1 hcz63_2 hcz63_3 hcz63_4 hcz63_5 hcz63_6 hcz63_7
           try clear hcz65_0 hcz65_1 hcz65_2 hcz65_3 hcz65_4 hcz65_5 hcz65_6 hcz65_7
           try clear hcz69_0 hcz69_1 hcz69_2 hcz69_3
           try clear hcz71_0 hcz71_1 hcz71_2 hcz71_3
           try clear hcz72_0 hcz72_1 hcz72_2 hcz72_3 hcz72_4 hcz72_5 hcz72_6 hcz72_7
           try clear hcz73_0 hcz73_1 hcz73_2 hcz73_3 hcz73_4 hcz73_5 hcz73_6 hcz73_7
           try clear hcz82_0 hcz82_1 hcz82_2 hcz82_3 hcz82_4 hcz82_5 hcz82_6 hcz82_7
           try clear hcz84_0 hcz84_1 hcz84_2 hcz84_3 hcz84_4 hcz84_5 hcz84_6 hcz84_7
           try clear hcz88_0 hcz88_1 hcz88_2 hcz88_3
           try clear hcz90_0 hcz90_1 hcz90_2 hcz90_3
           try clear hcz98_0 hcz98_1 hcz98_2 hcz98_3 hcz98_4 hcz98_5 hcz98_6 hcz98_7
           try clear hcz99_0 hcz99_1 hcz99_2 hcz99_3 hcz99_4 hcz99_5 hcz99_6 hcz99_7
           try clear hfz108_0 hfz108_1 hfz108_2 hfz108_3 hfz108_4 hfz108_5 hfz108_6 hfz108_7
           try clear hfz110_0 hfz110_1 hfz110_2 hfz110_3 hfz110_4 hfz110_5 hfz110_6 hfz110_7
           try clear hfz114_0 hfz114_1 hfz114_2 hfz114_3
           try clear hfz116_0 hfz116_1 hfz116_2 hfz116_3
           try clear hfz117_0 hfz117_1 hfz117_2 hfz117_3 hfz117_4 hfz117_5 hfz117_6 hfz117_7
           try clear hfz122_0 hfz122_1 hfz122_2 hfz122_3 hfz122_4 hfz122_5 hfz122_6 hfz122_7
           try clear hfz123_0 hfz123_1 hfz123_2 hfz123_3 hfz123_4 hfz123_5 hfz123_6 hfz123_7
           try clear hfz12_0 hfz12_1 hfz12_2 hfz12_3 hfz12_4 hfz12_5 hfz12_6 hfz12_7
           try clear hfz131_0 hfz131_1 hfz131_2 hfz131_3 hfz131_4 hfz131_5 hfz131_6 hfz131_7
           try clear hfz133_0 hfz133_1 hfz133_2 hfz133_3 hfz133_4 hfz133_5 hfz133_6 hfz133_7
           try clear hfz137_0 hfz137_1 hfz137_2 hfz137_3
           try clear hfz139_0 hfz139_1 hfz139_2 hfz139_3
           try clear hfz142_0 hfz142_1 hfz142_2 hfz142_3 hfz142_4 hfz142_5 hfz142_6 hfz142_7
           try clear hfz143_0 hfz143_1 hfz143_2 hfz143_3 hfz143_4 hfz143_5 hfz143_6 hfz143_7
           try clear hfz14_0 hfz14_1 hfz14_2 hfz14_3 hfz14_4 hfz14_5 hfz14_6 hfz14_7
           try clear hfz150_0 hfz150_1 hfz150_2 hfz150_3 hfz150_4 hfz150_5 hfz150_6 hfz150_7
           try clear hfz14_0 hfz14_1 hfz14_2 hfz14_3 hfz14_4 hfz14_5 hfz14_6 hfz14_7
           try clear hfz156_0 hfz156_1 hfz156_2 hfz156_3
           try clear hfz158_0 hfz158_1 hfz158_2 hfz158_3
           try clear hfz159_0 hfz159_1 hfz159_2 hfz159_3 hfz159_4 hfz159_5 hfz159_6 hfz159_7
           try clear hfz18_0 hfz18_1 hfz18_2 hfz18_3
           try clear hfz20_0 hfz20_1 hfz20_2 hfz20_3
           try clear hfz21_0 hfz21_1 hfz21_2 hfz21_3 hfz21_4 hfz21_5 hfz21_6 hfz21_7
           try clear hfz22_0 hfz22_1 hfz22_2 hfz22_3 hfz22_4 hfz22_5 hfz22_6 hfz22_7
           try clear hfz29_0 hfz29_1 hfz29_2 hfz29_3 hfz29_4 hfz29_5 hfz29_6 hfz29_7
           try clear hfz31_0 hfz31_1 hfz31_2 hfz31_3 hfz31_4 hfz31_5 hfz31_6 hfz31_7
           try clear hfz35_0 hfz35_1 hfz35_2 hfz35_3
           try clear hfz37_0 hfz37_1 hfz37_2 hfz37_3
           try clear hfz38_0 hfz38_1 hfz38_2 hfz38_3 hfz38_4 hfz38_5 hfz38_6 hfz38_7
           try clear hfz39_0 hfz39_1 hfz39_2 hfz39_3 hfz39_4 hfz39_5 hfz39_6 hfz39_7
           try clear hfz46_0 hfz46_1 hfz46_2 hfz46_3 hfz46_4 hfz46_5 hfz46_6 hfz46_7
           try clear hfz48_0 hfz48_1 hfz48_2 hfz48_3 hfz48_4 hfz48_5 hfz48_6 hfz48_7
           try clear hfz52_0 hfz52_1 hfz52_2 hfz52_3
           try clear hfz54_0 hfz54_1 hfz54_2 hfz54_3
           try clear hfz55_0 hfz55_1 hfz55_2 hfz55_3 hfz55_4 hfz55_5 hfz55_6 hfz55_7
           try clear hfz56_0 hfz56_1 hfz56_2 hfz56_3 hfz56_4 hfz56_5 hfz56_6 hfz56_7
           try clear hfz63_0 hfz63_1 hfz63_2 hfz63_3 hfz63_4 hfz63_5 hfz63_6 hfz63_7
           try clear hfz65_0 hfz65_1 hfz65_2 hfz65_3 hfz65_4 hfz65_5 hfz65_6 hfz65_7
           try clear hfz69_0 hfz69_1 hfz69_2 hfz69_3
           try clear hfz71_0 hfz71_1 hfz71_2 hfz71_3
           try clear hfz72_0 hfz72_1 hfz72_2 hfz72_3 hfz72_4 hfz72_5 hfz72_6 hfz72_7
           try clear hfz73_0 hfz73_1 hfz73_2 hfz73_3 hfz73_4 hfz73_5 hfz73_6 hfz73_7
           try clear hfz82_0 hfz82_1 hfz82_2 hfz82_3 hfz82_4 hfz82_5 hfz82_6 hfz82_7
           try clear hfz84_0 hfz84_1 hfz84_2 hfz84_3 hfz84_4 hfz84_5 hfz84_6 hfz84_7
           try clear hfz88_0 hfz88_1 hfz88_2 hfz88_3
           try clear hfz90_0 hfz90_1 hfz90_2 hfz90_3
           try clear hfz98_0 hfz98_1 hfz98_2 hfz98_3 hfz98_4 hfz98_5 hfz98_6 hfz98_7
           try clear hfz99_0 hfz99_1 hfz99_2 hfz99_3 hfz99_4 hfz99_5 hfz99_6 hfz99_7
           obtain ⟨x5_1, x67_1, rfl, HA, HK1, HO_5, HO_65, HO_3002, HO_3003, BK1, BK2, BK3, HB⟩ := hrel
           cases gk with
           | zero => exact absurd HA.out (by simp [q23z.l0])
           | succ k1 =>
            have H := HA.out
            clear HA
            simp only [q23z.l0] at H
            by_cases c160 : x67_1 < (t9.length : Int)
            ·
             rw [if_pos c160] at H
             have c160b0 : decide (x67_1 < (t9.length : Int)) = true := decide_eq_true c160
             clear c160
             by_cases c161 : 0 ≤ x67_1
             ·
              rw [if_pos c161] at H
              have c161b0 : decide (0 ≤ x67_1) = true := decide_eq_true c161
              clear c161
              by_cases c162 : x67_1 < (t9.length : Int)
              ·
               rw [if_pos c162] at H
               have c162b0 : decide (x67_1 < (t9.length : Int)) = true := decide_eq_true c162
               clear c162
               obtain ⟨y36, hy36⟩ : ∃ y_ : List Int, y_ = (([rd t9 x67_1] : List Int)) := ⟨_, rfl⟩
               replace H : ((q12z.f k1 l0_3 y36).bind fun t39 => (if t39 = true then (q23z.l0 k1 x5_1 t9 (t9.length : Int) (wrap64 (x67_1 + 1)) a0_0 a0_1 l0_2 l0_3 t4 t5 t6 t9 t12 t13 t14 t15) else (if x5_1.length < 35184372088832 then (q23z.l0 k1 (x5_1 ++ [rd t9 x67_1]) t9 (t9.length : Int) (wrap64 (x67_1 + 1)) a0_0 a0_1 l0_2 l0_3 t4 t5 t6 t9 t12 t13 t14 t15) else (none)))) = some (r1, r2, r3, r4, r5, r6, r7, r8) := by first | (rw [hy36]; with_reducible exact H) | (have H2_ := (Option.bind_some _ _).symm.trans H; rw [hy36]; with_reducible exact H2_) | (have H2_ := (Option.bind_some _ _).symm.trans H; with_reducible exact H2_) | with_reducible exact H | (rw [hy36]; exact H) | exact H
               have Ny36 := Aside0.mk hy36
               clear hy36
               replace H := Option.bind_eq_some_iff.mp H
               obtain ⟨t39, A1630, H⟩ := H
               replace H : (if t39 = true then (q23z.l0 k1 x5_1 t9 (t9.length : Int) (wrap64 (x67_1 + 1)) a0_0 a0_1 l0_2 l0_3 t4 t5 t6 t9 t12 t13 t14 t15) else (if x5_1.length < 35184372088832 then (q23z.l0 k1 (x5_1 ++ [rd t9 x67_1]) t9 (t9.length : Int) (wrap64 (x67_1 + 1)) a0_0 a0_1 l0_2 l0_3 t4 t5 t6 t9 t12 t13 t14 t15) else (none))) = some (r1, r2, r3, r4, r5, r6, r7, r8) := H
               have A163 := Aside0.mk A1630
               clear A1630
               by_cases c164 : t39 = true
               ·
                subst c164
                have H1 : (q23z.l0 k1 x5_1 t9 (t9.length : Int) (wrap64 (x67_1 + 1)) a0_0 a0_1 l0_2 l0_3 t4 t5 t6 t9 t12 t13 t14 t15) = some (r1, r2, r3, r4, r5, r6, r7, r8) := by rw [if_pos rfl] at H; exact H
                clear H
                have H := H1
                clear H1
                have H' := Aside0.mk H
                clear H
                have p35 : 0 ≤ (x67_1 : Int) := of_decide_eq_true (by first | (with_reducible assumption) | assumption)
                have q35 : x67_1 < (t9.length : Int) := of_decide_eq_true (by first | (with_reducible assumption) | assumption)
                obtain ⟨ad35, e35, hx35_0⟩ := Kd.at_int (Kd.R_reads' HO_65.out).2.2 x67_1 p35 q35
                cases e35
                replace p35 := eq_true p35
                replace q35 := eq_true q35
                have hnb165 := NB1_2.out
                have hnc165 := NB2_1.out
                have hnb166 := NB1_3.out
                have hnc166 := NB3_1.out
                obtain ⟨hcz167_0, hcz167_1, hcz167_2, hcz167_3, hfz167_0, hfz167_1, hfz167_2, hfz167_3⟩ := bc4 BK1
                go_wp2_with (first | ((with_reducible refine gate_dst (N := 74) rfl ?_); refine Kd.R_lit (Kd.int .u32) _ 22 ?hg (N := 74) ?hd (xs := ([rd t9 x67_1] : List Int)) (inner := [.int .u32 (rd t9 x67_1)]) (ok := fun _ => True) (okp := fun _ => True) ?hr ?hp (fun _ hk => hk) trivial (Below.refl _ _) (Nat.le_refl _) (by simp) ?_; (case hd => rfl); (case hg => rfl); (case hr => first | (go_simp; done) | (go_simp; rfl)); (case hp => exact (Reps.one (show Kd.M (Kd.int .u32) _ _ _ (rd t9 x67_1) [.int .u32 (rd t9 x67_1)] from rfl) (Reps.none _ _))); intro v37 w168 ho169 hb hg_ hnew_; clear hg_ hnew_; (first | rw [← Ny36.out] at ho169 | (simp only [Int.reduceToNat] at ho169; rw [← Ny36.out] at ho169)); have HO38 := Aside0.mk (Kd.R_lower (Kd.R_new' (Kd.R_new' (Kd.R_new' (Kd.R_new' ho169 (Kd.R_lt (rW HO_5))) (Kd.R_lt (rW HO_65))) (Kd.R_lt (rW HO_3002))) (Kd.R_lt (rW HO_3003))) (below_size (hbW HB))); replace HO_5 := Aside0.mk (Kd.R_elder' (rW HO_5) (Kd.R_base ho169) hb); replace HO_65 := Aside0.mk (Kd.R_elder' (rW HO_65) (Kd.R_base ho169) hb); replace HO_3002 := Aside0.mk (Kd.R_elder' (rW HO_3002) (Kd.R_base ho169) hb); replace HO_3003 := Aside0.mk (Kd.R_elder' (rW HO_3003) (Kd.R_base ho169) hb); replace BK1 := bkB BK1 hb; replace BK2 := bkB BK2 hb; replace BK3 := bkB BK3 hb; replace HB := hbS HB hb; clear hb ho169; obtain ⟨Ao170, co170, eo170⟩ := Kd.R_slice HO38.out; subst eo170) | ((with_reducible refine gate_callee (f := 21) rfl ?_); refine goesL_ (some 75) rfl rfl Try.func21 (by kernel_rfl) rfl #[.slice A0_3 l0_3.length c0_3, .slice Ao170 y36.length co170] rfl (by (try simp only [List.map_toArray, List.map_cons, List.map_nil]); first | done | rfl | (simp only [List.length_drop, List.length_take]; rfl)) ?_; (with_reducible refine (q12z.calls k1 _ _ l0_3 _ _ y36 true _ ?side1 ?side2 ?side3 ?side4 A163.out).mono ?_); (case side1 => repeat (first | exact (Kd.C_below HR0_3.out HB.out) | (with_reducible refine Kd.C_alloc ?_ _) | (with_reducible refine Kd.C_drewN ?_ _) | (with_reducible refine Kd.C_drew ?_))); (case side2 => exact HC0_3.out); (case side3 => repeat (first | exact (Kd.R_reads' HO38.out).2.2 | (with_reducible refine Kd.C_alloc ?_ _) | (with_reducible refine Kd.C_drewN ?_ _) | (with_reducible refine Kd.C_drew ?_))); (case side4 => exact (Kd.R_reads' HO38.out).2.1); rintro e w171 ⟨rfl, hb⟩; refine ⟨_, rfl, ?_⟩; replace HO_5 := Aside0.mk (Kd.R_below (rW HO_5) hb); replace HO_65 := Aside0.mk (Kd.R_below (rW HO_65) hb); replace HO_3002 := Aside0.mk (Kd.R_below (rW HO_3002) hb); replace HO_3003 := Aside0.mk (Kd.R_below (rW HO_3003) hb); replace HO38 := Aside0.mk (Kd.R_below (rW HO38) hb); replace BK1 := bkB BK1 hb; replace BK2 := bkB BK2 hb; replace BK3 := bkB BK3 hb; replace HB := hbS HB hb; (try clear hb); (try clear hk)))
                go_roundg k1
                case measure => have := HK1.out; omega
                case rel => exact ⟨(x5_1), (wrap64 (x67_1 + 1)), (by first | rfl | (simp; done) | (simp [*]; done)), H', ⟨by have := HK1.out; omega⟩, ⟨by (with_reducible repeat (first | apply Kd.R_alloc | apply Kd.R_drewN | apply Kd.R_drew)); exact Kd.R_mono HO_5.out (fun _ hk => ⟨hk.1.1, ⟨hk.1.2.1, hk.1.2.2⟩⟩)⟩, ⟨by (with_reducible repeat (first | apply Kd.R_alloc | apply Kd.R_drewN | apply Kd.R_drew)); exact Kd.R_mono HO_65.out (fun _ hk => ⟨hk.1.1, hk.1.2⟩)⟩, ⟨by (with_reducible repeat (first | apply Kd.R_alloc | apply Kd.R_drewN | apply Kd.R_drew)); exact Kd.R_mono HO_3002.out (fun _ hk => ⟨hk.1.1, ⟨hk.1.2.1, hk.1.2.2⟩⟩)⟩, ⟨by (with_reducible repeat (first | apply Kd.R_alloc | apply Kd.R_drewN | apply Kd.R_drew)); exact Kd.R_mono HO_3003.out (fun _ hk => ⟨hk.1.1, hk.1.2⟩)⟩, ⟨by (with_reducible repeat (first | refine blk_drewN ?_ _ | refine blk_drew ?_ | refine blk_alloc ?_ _)); exact BK1.out⟩, ⟨by (with_reducible repeat (first | refine blk_drewN ?_ _ | refine blk_drew ?_ | refine blk_alloc ?_ _)); exact BK2.out⟩, ⟨by (with_reducible repeat (first | refine blk_drewN ?_ _ | refine blk_drew ?_ | refine blk_alloc ?_ _)); exact BK3.out⟩, ⟨hbW HB⟩⟩
               ·
                replace c164 := Bool.eq_false_iff.mpr c164
                subst c164
                have H1 : (if x5_1.length < 35184372088832 then (q23z.l0 k1 (x5_1 ++ [rd t9 x67_1]) t9 (t9.length : Int) (wrap64 (x67_1 + 1)) a0_0 a0_1 l0_2 l0_3 t4 t5 t6 t9 t12 t13 t14 t15) else (none)) = some (r1, r2, r3, r4, r5, r6, r7, r8) := by rw [if_neg (show ¬ (false = true) by decide)] at H; exact H
                clear H
                have H := H1
                clear H1
                by_cases c172 : x5_1.length < 35184372088832
                ·
                 rw [if_pos c172] at H
                 have LMc172 := Aside0.mk c172
                 clear c172
                 obtain ⟨y40, hy40⟩ : ∃ y_ : List Int, y_ = (x5_1 ++ [rd t9 x67_1]) := ⟨_, rfl⟩
                 replace H : (q23z.l0 k1 y40 t9 (t9.length : Int) (wrap64 (x67_1 + 1)) a0_0 a0_1 l0_2 l0_3 t4 t5 t6 t9 t12 t13 t14 t15) = some (r1, r2, r3, r4, r5, r6, r7, r8) := by first | (rw [hy40]; with_reducible exact H) | (have H2_ := (Option.bind_some _ _).symm.trans H; rw [hy40]; with_reducible exact H2_) | (have H2_ := (Option.bind_some _ _).symm.trans H; with_reducible exact H2_) | with_reducible exact H | (rw [hy40]; exact H) | exact H
                 have Ny40 := Aside0.mk hy40
                 clear hy40
                 have H' := Aside0.mk H
                 clear H
                 have p35 : 0 ≤ (x67_1 : Int) := of_decide_eq_true (by first | (with_reducible assumption) | assumption)
                 have q35 : x67_1 < (t9.length : Int) := of_decide_eq_true (by first | (with_reducible assumption) | assumption)
                 obtain ⟨ad35, e35, hx35_0⟩ := Kd.at_int (Kd.R_reads' HO_65.out).2.2 x67_1 p35 q35
                 cases e35
                 replace p35 := eq_true p35
                 replace q35 := eq_true q35
                 have hnb173 := NB1_2.out
                 have hnc173 := NB2_1.out
                 have hnb174 := NB1_3.out
                 have hnc174 := NB3_1.out
                 obtain ⟨hcz175_0, hcz175_1, hcz175_2, hcz175_3, hfz175_0, hfz175_1, hfz175_2, hfz175_3⟩ := bc4 BK1
                 go_wp2_with (first | ((with_reducible refine gate_dst (N := 74) rfl ?_); refine Kd.R_lit (Kd.int .u32) _ 22 ?hg (N := 74) ?hd (xs := ([rd t9 x67_1] : List Int)) (inner := [.int .u32 (rd t9 x67_1)]) (ok := fun _ => True) (okp := fun _ => True) ?hr ?hp (fun _ hk => hk) trivial (Below.refl _ _) (Nat.le_refl _) (by simp) ?_; (case hd => rfl); (case hg => rfl); (case hr => first | (go_simp; done) | (go_simp; rfl)); (case hp => exact (Reps.one (show Kd.M (Kd.int .u32) _ _ _ (rd t9 x67_1) [.int .u32 (rd t9 x67_1)] from rfl) (Reps.none _ _))); intro v37 w176 ho177 hb hg_ hnew_; clear hg_ hnew_; (first | rw [← Ny36.out] at ho177 | (simp only [Int.reduceToNat] at ho177; rw [← Ny36.out] at ho177)); have HO38 := Aside0.mk (Kd.R_lower (Kd.R_new' (Kd.R_new' (Kd.R_new' (Kd.R_new' ho177 (Kd.R_lt (rW HO_5))) (Kd.R_lt (rW HO_65))) (Kd.R_lt (rW HO_3002))) (Kd.R_lt (rW HO_3003))) (below_size (hbW HB))); replace HO_5 := Aside0.mk (Kd.R_elder' (rW HO_5) (Kd.R_base ho177) hb); replace HO_65 := Aside0.mk (Kd.R_elder' (rW HO_65) (Kd.R_base ho177) hb); replace HO_3002 := Aside0.mk (Kd.R_elder' (rW HO_3002) (Kd.R_base ho177) hb); replace HO_3003 := Aside0.mk (Kd.R_elder' (rW HO_3003) (Kd.R_base ho177) hb); replace BK1 := bkB BK1 hb; replace BK2 := bkB BK2 hb; replace BK3 := bkB BK3 hb; replace HB := hbS HB hb; clear hb ho177; obtain ⟨Ao178, co178, eo178⟩ := Kd.R_slice HO38.out; subst eo178) | ((with_reducible refine gate_callee (f := 21) rfl ?_); refine goesL_ (some 75) rfl rfl Try.func21 (by kernel_rfl) rfl #[.slice A0_3 l0_3.length c0_3, .slice Ao178 y36.length co178] rfl (by (try simp only [List.map_toArray, List.map_cons, List.map_nil]); first | done | rfl | (simp only [List.length_drop, List.length_take]; rfl)) ?_; (with_reducible refine (q12z.calls k1 _ _ l0_3 _ _ y36 false _ ?side1 ?side2 ?side3 ?side4 A163.out).mono ?_); (case side1 => repeat (first | exact (Kd.C_below HR0_3.out HB.out) | (with_reducible refine Kd.C_alloc ?_ _) | (with_reducible refine Kd.C_drewN ?_ _) | (with_reducible refine Kd.C_drew ?_))); (case side2 => exact HC0_3.out); (case side3 => repeat (first | exact (Kd.R_reads' HO38.out).2.2 | (with_reducible refine Kd.C_alloc ?_ _) | (with_reducible refine Kd.C_drewN ?_ _) | (with_reducible refine Kd.C_drew ?_))); (case side4 => exact (Kd.R_reads' HO38.out).2.1); rintro e w179 ⟨rfl, hb⟩; refine ⟨_, rfl, ?_⟩; replace HO_5 := Aside0.mk (Kd.R_below (rW HO_5) hb); replace HO_65 := Aside0.mk (Kd.R_below (rW HO_65) hb); replace HO_3002 := Aside0.mk (Kd.R_below (rW HO_3002) hb); replace HO_3003 := Aside0.mk (Kd.R_below (rW HO_3003) hb); replace HO38 := Aside0.mk (Kd.R_below (rW HO38) hb); replace BK1 := bkB BK1 hb; replace BK2 := bkB BK2 hb; replace BK3 := bkB BK3 hb; replace HB := hbS HB hb; (try clear hb); (try clear hk)) | ((with_reducible refine gate_builtin (b := .append) (xs := #[.tmp 77, .tmp 79]) rfl ?_); at_builtin; refine Kd.R_append (Kd.int .u32) (w0 := w) w.heap.size rfl (.tmp 77) (.tmp 79) 23 22 (.int .u32 0) 4 rfl Try.underlying23 info22 rfl (by decide) (by omega) u5 x5_1 (rd t9 x67_1) [.int .u32 (rd t9 x67_1)] (fun k_ => some k_ ≠ (.slice (some ad35) t9.length co16 : Value).ownBlock ∧ some k_ ≠ (.slice Ao15 t6.length co15 : Value).ownBlock ∧ some k_ ≠ (.slice (some ad35) t9.length co16 : Value).ownBlock ∧ some k_ ≠ (.slice Ao178 y36.length co178 : Value).ownBlock) (fun _ => False) rfl rfl ?aP (fun _ hk => hk.elim) ?aF ?aO ?aB ?aS ?aL ?_; (case aP => exact rfl); (case aB => exact (hbW HB)); (case aF => exact (fun k_ hk => ⟨Kd.fresh' (Kd.R_lt (rW HO_65)) k_ hk, Kd.fresh' (Kd.R_lt (rW HO_3002)) k_ hk, Kd.fresh' (Kd.R_lt (rW HO_3003)) k_ hk, Kd.fresh' (Kd.R_lt (rW HO38)) k_ hk⟩)); (case aO => exact (by (with_reducible repeat (first | apply Kd.R_alloc | apply Kd.R_drewN | apply Kd.R_drew)); exact Kd.R_mono HO_5.out (fun _ hk => ⟨hk.1.1, ⟨hk.1.2.1, ⟨hk.1.2.2, hk.2⟩⟩⟩))); (case aS => exact (below_size (hbW HB))); (case aL => have := LMc172.out; omega); intro v41 w180 ho hb hg hat; rw [← Ny40.out] at ho; have n0_ := Aside0.mk (Kd.R_after (ok := (fun k_ => some k_ ≠ (.slice Ao15 t6.length co15 : Value).ownBlock ∧ some k_ ≠ (.slice Ao178 y36.length co178 : Value).ownBlock)) (by (with_reducible repeat (first | apply Kd.R_alloc | apply Kd.R_drewN | apply Kd.R_drew)); exact Kd.R_mono HO_65.out (fun _ hk => ⟨⟨hk.1.2, hk.2⟩, hk.1.1⟩)) hg hat); have n1_ := Aside0.mk (Kd.R_after (ok := (fun k_ => some k_ ≠ (.slice (some ad35) t9.length co16 : Value).ownBlock ∧ some k_ ≠ (.slice (some ad35) t9.length co16 : Value).ownBlock ∧ some k_ ≠ (.slice Ao178 y36.length co178 : Value).ownBlock)) (by (with_reducible repeat (first | apply Kd.R_alloc | apply Kd.R_drewN | apply Kd.R_drew)); exact Kd.R_mono HO_3002.out (fun _ hk => ⟨⟨hk.1.2.1, ⟨hk.1.2.2, hk.2⟩⟩, hk.1.1⟩)) hg hat); have n2_ := Aside0.mk (Kd.R_after (ok := (fun k_ => some k_ ≠ (.slice Ao15 t6.length co15 : Value).ownBlock ∧ some k_ ≠ (.slice Ao178 y36.length co178 : Value).ownBlock)) (by (with_reducible repeat (first | apply Kd.R_alloc | apply Kd.R_drewN | apply Kd.R_drew)); exact Kd.R_mono HO_3003.out (fun _ hk => ⟨⟨hk.1.2, hk.2⟩, hk.1.1⟩)) hg hat); have n3_ := Aside0.mk (blk_grown (g := gb1) (o := .cells #[.int .i64 a0_0, .int .u32 a0_1, .slice A0_2 l0_2.length c0_2, .slice A0_3 l0_3.length c0_3] 26 (0, 0)) (bkW BK1) hg (Kd.R_ne HO_5.out BK1.out (by decide))); have n4_ := Aside0.mk (blk_grown (g := gb2) (o := .cells #[.int .u32 t4, .int .i64 t5, .slice Ao15 t6.length co15, .slice (some ad35) t9.length co16, .int .u32 t12, .int .u32 t13, .int .i64 t14, .int .u32 t15] 30 (0, 0)) (bkW BK2) hg (Kd.R_ne HO_5.out BK2.out (by decide))); have n5_ := Aside0.mk (blk_grown (g := gb3) (o := .cells #[.int .u32 0, .int .i64 0, .slice none 0 0, .slice none 0 0, .int .u32 0, .int .u32 0, .int .i64 0, .int .u32 0] 30 (0, 0)) (bkW BK3) hg (Kd.R_ne HO_5.out BK3.out (by decide))); have n6_ := Aside0.mk (Kd.R_after (ok := (fun k_ => some k_ ≠ (.slice (some ad35) t9.length co16 : Value).ownBlock ∧ some k_ ≠ (.slice Ao15 t6.length co15 : Value).ownBlock ∧ some k_ ≠ (.slice (some ad35) t9.length co16 : Value).ownBlock)) (by (with_reducible repeat (first | apply Kd.R_alloc | apply Kd.R_drewN | apply Kd.R_drew)); exact Kd.R_mono HO38.out (fun _ hk => ⟨⟨hk.1.1.2, ⟨hk.1.2, hk.2⟩⟩, hk.1.1.1.2⟩)) hg hat); have n7_ := Aside0.mk (hb); have n8_ := Aside0.mk (ho); clear HO_65; clear HO_3002; clear HO_3003; clear BK1; clear BK2; clear BK3; clear HO38; clear HB; clear HO_5; have HO_65 := n0_; have HO_3002 := n1_; have HO_3003 := n2_; have BK1 := n3_; have BK2 := n4_; have BK3 := n5_; have HO38 := n6_; have HB := n7_; have HO42 := n8_; clear n0_ n1_ n2_ n3_ n4_ n5_ n6_ n7_ n8_; clear ho hb hg hat))
                 go_roundg k1
                 case measure => have := HK1.out; omega
                 case rel => exact ⟨(y40), (wrap64 (x67_1 + 1)), (by first | rfl | (simp; done) | (simp [*]; done)), H', ⟨by have := HK1.out; omega⟩, ⟨by (with_reducible repeat (first | apply Kd.R_alloc | apply Kd.R_drewN | apply Kd.R_drew)); exact Kd.R_mono HO42.out (fun _ hk => ⟨hk.1, ⟨hk.2.1, hk.2.2.1⟩⟩)⟩, ⟨by (with_reducible repeat (first | apply Kd.R_alloc | apply Kd.R_drewN | apply Kd.R_drew)); exact Kd.R_mono HO_65.out (fun _ hk => ⟨hk.2, hk.1.1⟩)⟩, ⟨by (with_reducible repeat (first | apply Kd.R_alloc | apply Kd.R_drewN | apply Kd.R_drew)); exact Kd.R_mono HO_3002.out (fun _ hk => ⟨hk.2, ⟨hk.1.1, hk.1.2.1⟩⟩)⟩, ⟨by (with_reducible repeat (first | apply Kd.R_alloc | apply Kd.R_drewN | apply Kd.R_drew)); exact Kd.R_mono HO_3003.out (fun _ hk => ⟨hk.2, hk.1.1⟩)⟩, ⟨by (with_reducible repeat (first | refine blk_drewN ?_ _ | refine blk_drew ?_ | refine blk_alloc ?_ _)); exact BK1.out⟩, ⟨by (with_reducible repeat (first | refine blk_drewN ?_ _ | refine blk_drew ?_ | refine blk_alloc ?_ _)); exact BK2.out⟩, ⟨by (with_reducible repeat (first | refine blk_drewN ?_ _ | refine blk_drew ?_ | refine blk_alloc ?_ _)); exact BK3.out⟩, ⟨hbW HB⟩⟩
                ·
                 rw [if_neg c172] at H
                 exact absurd H (by simp)
              ·
               rw [if_neg c162] at H
               exact absurd H (by simp)
             ·
              rw [if_neg c161] at H
              exact absurd H (by simp)
            ·
             rw [if_neg c160] at H
             have c160b0 : decide (x67_1 < (t9.length : Int)) = false := decide_eq_false c160
             clear c160
             replace H := Option.bind_eq_some_iff.mp H
             obtain ⟨t43, A1810, H⟩ := H
             replace H : (some (t4, t5, t6, t43, t12, t13, t14, t15)) = some (r1, r2, r3, r4, r5, r6, r7, r8) := H
             have A181 := Aside0.mk A1810
             clear A1810
             simp only [Option.some.injEq, Prod.mk.injEq] at H
             obtain ⟨rfl, rfl, rfl, rfl, rfl, rfl, rfl, rfl⟩ := H
             obtain ⟨Ao182, co182, eo182⟩ := Kd.R_slice HO_5.out
             subst eo182
             go_wp2_with (first | ((with_reducible refine gate_callee (f := 37) rfl ?_); refine goesL_ (some 83) rfl rfl Try.func37 (by kernel_rfl) rfl #[.slice Ao182 x5_1.length co182] rfl (by (try simp only [List.map_toArray, List.map_cons, List.map_nil]); first | done | rfl | (simp only [List.length_drop, List.length_take]; rfl)) ?_; (with_reducible refine (q22z.calls k1 _ _ x5_1 t43 _ ?side1 ?side2 A181.out).mono ?_); (case side1 => repeat (first | exact (Kd.R_reads' HO_5.out).2.2 | (with_reducible refine Kd.C_alloc ?_ _) | (with_reducible refine Kd.C_drewN ?_ _) | (with_reducible refine Kd.C_drew ?_))); (case side2 => exact (Kd.R_reads' HO_5.out).2.1); rintro e w183 ⟨v44, rfl, ho0, hb⟩; refine ⟨_, rfl, ?_⟩; have HO45 := Aside0.mk (Kd.R_lower (Kd.R_new' (Kd.R_new' (Kd.R_new' (Kd.R_new' ho0 (Kd.R_lt (rW HO_5))) (Kd.R_lt (rW HO_65))) (Kd.R_lt (rW HO_3002))) (Kd.R_lt (rW HO_3003))) (below_size (hbW HB))); replace HO_5 := Aside0.mk (Kd.R_elder' (rW HO_5) (Kd.R_base ho0) hb); replace HO_65 := Aside0.mk (Kd.R_elder' (rW HO_65) (Kd.R_base ho0) hb); replace HO_3002 := Aside0.mk (Kd.R_elder' (rW HO_3002) (Kd.R_base ho0) hb); replace HO_3003 := Aside0.mk (Kd.R_elder' (rW HO_3003) (Kd.R_base ho0) hb); replace BK1 := bkB BK1 hb; replace BK2 := bkB BK2 hb; replace BK3 := bkB BK3 hb; replace HB := hbS HB hb; (try clear hb); (try clear ho0); obtain ⟨Ao184, co184, eo184⟩ := Kd.R_slice HO45.out; subst eo184; have hnb185 := NB2_1.out; have hnc185 := NB1_2.out; have hnb186 := NB2_3.out; have hnc186 := NB3_2.out; obtain ⟨hcz187_0, hcz187_1, hcz187_2, hcz187_3, hcz187_4, hcz187_5, hcz187_6, hcz187_7, hfz187_0, hfz187_1, hfz187_2, hfz187_3, hfz187_4, hfz187_5, hfz187_6, hfz187_7⟩ := bc8 BK2; have hnb188 := NB3_1.out; have hnc188 := NB1_3.out; obtain ⟨hcz189_0, hcz189_1, hcz189_2, hcz189_3, hcz189_4, hcz189_5, hcz189_6, hcz189_7, hfz189_0, hfz189_1, hfz189_2, hfz189_3, hfz189_4, hfz189_5, hfz189_6, hfz189_7⟩ := bc8 BK3))
             refine bodyPost_ret (results_cell_row rfl _ _ gb3 30 #[.int .u32 t4, .int .i64 t5, .slice Ao15 t6.length co15, .slice Ao184 t43.length co184, .int .u32 t12, .int .u32 t13, .int .i64 t14, .int .u32 t15] (0, 0) _ rfl (bp8 BK3) Try.underlying30 rfl (by kernel_rfl)) rfl ?_
             exact ⟨_, _, by first | rfl | (simp [errW_none, errW_some] <;> rfl) | (simp [*, errW_none, errW_some] <;> rfl), moR (rW HO_3002), moR (rW HO45), hbW HB⟩
         ·
          rw [if_neg c144] at H
          have c144b0 : (a0_0 == 8) = false := beq_eq_false_iff_ne.mpr c144
          have c144b1 : (a0_0 != 8) = true := bne_iff_ne.mpr c144
          simp only [Option.some.injEq, Prod.mk.injEq] at H
          obtain ⟨rfl, rfl, rfl, rfl, rfl, rfl, rfl, rfl⟩ := H
          go_wp2
          refine bodyPost_ret (results_cell_row rfl _ _ gb3 30 #[.int .u32 t4, .int .i64 t5, .slice Ao15 t6.length co15, .slice Ao16 t9.length co16, .int .u32 t12, .int .u32 t13, .int .i64 t14, .int .u32 t15] (0, 0) _ rfl (bp8 BK3) Try.underlying30 rfl (by kernel_rfl)) rfl ?_
          exact ⟨_, _, by first | rfl | (simp [errW_none, errW_some] <;> rfl) | (simp [*, errW_none, errW_some] <;> rfl), moR (rW HO8), moR (rW HO11), hbW HB⟩
 ·
  replace c5 := Bool.eq_false_iff.mpr c5
  subst c5
  have H1 : (some (t4, t5, t6, t9, t12, t13, t14, t15)) = some (r1, r2, r3, r4, r5, r6, r7, r8) := by rw [if_neg (show ¬ (false = true) by decide)] at H; exact H
  clear H
  have H := H1
  clear H1
  simp only [Option.some.injEq, Prod.mk.injEq] at H
  obtain ⟨rfl, rfl, rfl, rfl, rfl, rfl, rfl, rfl⟩ := H
  go_enter Try.func17, Try.ntmps17
  go_wp2_with (first | ((with_reducible refine gate_dst (N := 2) rfl ?_); refine box_event ?hg (N := 2) ?hd (cs := #[.int .i64 a0_0, .int .u32 a0_1, .slice A0_2 l0_2.length c0_2, .slice A0_3 l0_3.length c0_3]) (t := 26) ?hr ?_; (case hd => rfl); (case hg => rfl); (case hr => first | (go_simp; done) | (go_simp; rfl)); intro gb1 hg w206 hbox hb; have BK1 := Aside0.mk (hbox); have GW1 := gwS hg HB; have GE1 := gwS hg HB; replace HB := hbS HB hb; clear hb hbox hg) | ((with_reducible refine gate_dst (N := 3) rfl ?_); refine box_event ?hg (N := 3) ?hd (cs := #[.int .u32 a1_0, .int .i64 a1_1, .slice A1_2 l1_2.length c1_2, .slice A1_3 l1_3.length c1_3, .int .u32 a1_4, .int .u32 a1_5, .int .i64 a1_6, .int .u32 a1_7]) (t := 30) ?hr ?_; (case hd => rfl); (case hg => rfl); (case hr => first | (go_simp; done) | (go_simp; rfl)); intro gb2 hg w207 hbox hb; have BK2 := Aside0.mk (hbox); have GW2 := gwS hg HB; have GE2 := gwS hg HB; have NB1_2 := nbL hg BK1; have NB2_1 := nbG hg BK1; replace BK1 := bkB BK1 hb; replace HB := hbS HB hb; clear hb hbox hg) | ((with_reducible refine gate_dst (N := 4) rfl ?_); refine box_event ?hg (N := 4) ?hd (cs := #[.int .u32 0, .int .i64 0, .slice none 0 0, .slice none 0 0, .int .u32 0, .int .u32 0, .int .i64 0, .int .u32 0]) (t := 30) ?hr ?_; (case hd => rfl); (case hg => rfl); (case hr => first | (go_simp; done) | (go_simp; rfl)); intro gb3 hg w208 hbox hb; have BK3 := Aside0.mk (hbox); have GW3 := gwS hg HB; have GE3 := gwS hg HB; have NB1_3 := nbL hg BK1; have NB3_1 := nbG hg BK1; have NB2_3 := nbL hg BK2; have NB3_2 := nbG hg BK2; replace BK1 := bkB BK1 hb; replace BK2 := bkB BK2 hb; replace HB := hbS HB hb; clear hb hbox hg; have hnb209 := NB2_1.out; have hnc209 := NB1_2.out; have hnb210 := NB2_3.out; have hnc210 := NB3_2.out; obtain ⟨hcz211_0, hcz211_1, hcz211_2, hcz211_3, hcz211_4, hcz211_5, hcz211_6, hcz211_7, hfz211_0, hfz211_1, hfz211_2, hfz211_3, hfz211_4, hfz211_5, hfz211_6, hfz211_7⟩ := bc8 BK2) | ((with_reducible refine gate_callee (f := 12) rfl ?_); refine goesL_ (some 9) rfl rfl Try.func12 (by kernel_rfl) rfl #[.agg #[.int .u32 a1_0, .int .i64 a1_1, .slice A1_2 l1_2.length c1_2, .slice A1_3 l1_3.length c1_3, .int .u32 a1_4, .int .u32 a1_5, .int .i64 a1_6, .int .u32 a1_7]] rfl (by (try simp only [List.map_toArray, List.map_cons, List.map_nil]); first | done | rfl | (simp only [List.length_drop, List.length_take]; rfl)) ?_; (with_reducible refine (q19z.calls a1_0 a1_1 _ _ l1_2 _ _ l1_3 a1_4 a1_5 a1_6 a1_7 t4 t5 t6 t9 t12 t13 t14 t15 _ ?side1 ?side2 ?side3 ?side4 A3.out).mono ?_); (case side1 => repeat (first | exact (Kd.C_below HR1_2.out HB.out) | (with_reducible refine Kd.C_alloc ?_ _) | (with_reducible refine Kd.C_drewN ?_ _) | (with_reducible refine Kd.C_drew ?_))); (case side2 => exact HC1_2.out); (case side3 => repeat (first | exact (Kd.C_below HR1_3.out HB.out) | (with_reducible refine Kd.C_alloc ?_ _) | (with_reducible refine Kd.C_drewN ?_ _) | (with_reducible refine Kd.C_drew ?_))); (case side4 => exact HC1_3.out); rintro e w212 ⟨v7, v10, rfl, ho0, ho1, hb⟩; refine ⟨_, rfl, ?_⟩; have HO8 := Aside0.mk (Kd.R_lower ho0 (below_size (hbW HB))); have HO11 := Aside0.mk (Kd.R_lower ho1 (below_size (hbW HB))); replace BK1 := bkB BK1 hb; replace BK2 := bkB BK2 hb; replace BK3 := bkB BK3 hb; replace HB := hbS HB hb; (try clear hb); (try clear ho0); (try clear ho1); obtain ⟨hcz213_0, hcz213_1, hcz213_2, hcz213_3, hcz213_4, hcz213_5, hcz213_6, hcz213_7, hfz213_0, hfz213_1, hfz213_2, hfz213_3, hfz213_4, hfz213_5, hfz213_6, hfz213_7⟩ := bc8 BK2; obtain ⟨Ao214, co214, eo214⟩ := Kd.R_slice HO8.out; subst eo214; obtain ⟨Ao215, co215, eo215⟩ := Kd.R_slice HO11.out; subst eo215; have hnb216 := NB1_3.out; have hnc216 := NB3_1.out; obtain ⟨hcz217_0, hcz217_1, hcz217_2, hcz217_3, hfz217_0, hfz217_1, hfz217_2, hfz217_3⟩ := bc4 BK1) | ((with_reducible refine gate_callee (f := 15) rfl ?_); refine goesL_ (some 11) rfl rfl Try.func15 (by kernel_rfl) rfl #[.agg #[.int .i64 a0_0, .int .u32 a0_1, .slice A0_2 l0_2.length c0_2, .slice A0_3 l0_3.length c0_3]] rfl (by (try simp only [List.map_toArray, List.map_cons, List.map_nil]); first | done | rfl | (simp only [List.length_drop, List.length_take]; rfl)) ?_; (with_reducible refine (q21z.calls k a0_0 a0_1 _ _ l0_2 _ _ l0_3 false _ ?side1 ?side2 ?side3 ?side4 A4.out).mono ?_); (case side1 => exact Kd.C_below HR0_2.out (hbW HB)); (case side2 => exact HC0_2.out); (case side3 => exact Kd.C_below HR0_3.out (hbW HB)); (case side4 => exact HC0_3.out); rintro e w218 ⟨rfl, hb⟩; refine ⟨_, rfl, ?_⟩; replace HO8 := Aside0.mk (Kd.R_below (rW HO8) hb); replace HO11 := Aside0.mk (Kd.R_below (rW HO11) hb); replace BK1 := bvB BK1 hb; replace BK2 := Aside0.mk (blk_below (g := gb2) (o := .cells #[.int .u32 t4, .int .i64 t5, .slice Ao214 t6.length co214, .slice Ao215 t9.length co215, .int .u32 t12, .int .u32 t13, .int .i64 t14, .int .u32 t15] 30 (0, 0)) (bp8 BK2) hb); replace BK3 := bvB BK3 hb; replace HB := hbS HB hb; (try clear hb); obtain ⟨hcz219_0, hcz219_1, hcz219_2, hcz219_3, hcz219_4, hcz219_5, hcz219_6, hcz219_7, hfz219_0, hfz219_1, hfz219_2, hfz219_3, hfz219_4, hfz219_5, hfz219_6, hfz219_7⟩ := bc8 BK2; obtain ⟨hcz220_0, hcz220_1, hcz220_2, hcz220_3, hcz220_4, hcz220_5, hcz220_6, hcz220_7, hfz220_0, hfz220_1, hfz220_2, hfz220_3, hfz220_4, hfz220_5, hfz220_6, hfz220_7⟩ := bc8 BK3))
  refine bodyPost_ret (results_cell_row rfl _ _ gb3 30 #[.int .u32 t4, .int .i64 t5, .slice Ao214 t6.length co214, .slice Ao215 t9.length co215, .int .u32 t12, .int .u32 t13, .int .i64 t14, .int .u32 t15] (0, 0) _ rfl (bp8 BK3) Try.underlying30 rfl (by kernel_rfl)) rfl ?_
  exact ⟨_, _, by first | rfl | (simp [errW_none, errW_some] <;> rfl) | (simp [*, errW_none, errW_some] <;> rfl), moR (rW HO8), moR (rW HO11), hbW HB⟩

/-! ### dragomanref12_All: function 23 -/
def q24z.l0 : Nat → List (S26) → Int → Int → Int → Int → List Int → List Int → Int → Int → Int → Int → Option (Int × Int × List Int × List Int × Int × Int × Int × Int)
 | 0, _, _, _, _, _, _, _, _, _, _, _ => none
 | k + 1, x9, x10, x11, x2000, x2001, x2002, x2003, x2004, x2005, x2006, x2007 => if x11 < x10 then (if 0 ≤ x11 then (if x11 < (x9.length : Int) then ((q23z.f k ((rd_T26 x9 x11).f0) ((rd_T26 x9 x11).f1) ((rd_T26 x9 x11).f2) ((rd_T26 x9 x11).f3) x2000 x2001 x2002 x2003 x2004 x2005 x2006 x2007).bind fun bt17 => (q24z.l0 k x9 x10 (wrap64 (x11 + 1)) bt17.1 bt17.2.1 bt17.2.2.1 bt17.2.2.2.1 bt17.2.2.2.2.1 bt17.2.2.2.2.2.1 bt17.2.2.2.2.2.2.1 bt17.2.2.2.2.2.2.2)) else (none)) else (none)) else (some (x2000, x2001, x2002, x2003, x2004, x2005, x2006, x2007))
def q24z.f (k : Nat) (l0 : List (S26)) (a1_0 : Int) (a1_1 : Int) (l1_2 : List Int) (l1_3 : List Int) (a1_4 : Int) (a1_5 : Int) (a1_6 : Int) (a1_7 : Int) : Option (Int × Int × List Int × List Int × Int × Int × Int × Int) := (q19z.f a1_0 a1_1 l1_2 l1_3 a1_4 a1_5 a1_6 a1_7).bind fun bt3 => (q24z.l0 k l0 (l0.length : Int) 0 bt3.1 bt3.2.1 bt3.2.2.1 bt3.2.2.2.1 bt3.2.2.2.2.1 bt3.2.2.2.2.2.1 bt3.2.2.2.2.2.2.1 bt3.2.2.2.2.2.2.2)
theorem q24z.mono_l : ∀ k, (∀ y0 y1 y2 y3 y4 y5 y6 y7 y8 y9 y10, LeO (q24z.l0 k y0 y1 y2 y3 y4 y5 y6 y7 y8 y9 y10) (q24z.l0 (k + 1) y0 y1 y2 y3 y4 y5 y6 y7 y8 y9 y10))
 | 0 => fun _ _ _ _ _ _ _ _ _ _ _ r h => by simp [q24z.l0] at h
 | k + 1 => by
  have ih0 := q24z.mono_l k
  ·
   intro y0 y1 y2 y3 y4 y5 y6 y7 y8 y9 y10
   unfold q24z.l0
   repeat' first
   | (with_reducible exact ih0 _ _ _ _ _ _ _ _ _ _ _)
   | (with_reducible exact q23z.mono _ _ _ _ _ _ _ _ _ _ _ _ _)
   | (with_reducible exact LeO.refl _)
   | (with_reducible exact LeO.none _)
   | (with_reducible refine LeO.ite ?_ ?_)
   | (with_reducible refine LeO.bind ?_ (fun _ => ?_))
   | exact ih0 _ _ _ _ _ _ _ _ _ _ _
   | exact q23z.mono _ _ _ _ _ _ _ _ _ _ _ _ _
   | exact LeO.none _
   | refine LeO.ite ?_ ?_
   | refine LeO.bind ?_ (fun _ => ?_)
theorem q24z.mono : ∀ a0 a1 a2 a3 a4 a5 a6 a7 a8 k, LeO (q24z.f k a0 a1 a2 a3 a4 a5 a6 a7 a8) (q24z.f (k + 1) a0 a1 a2 a3 a4 a5 a6 a7 a8) := by
 intro a0 a1 a2 a3 a4 a5 a6 a7 a8 k
 have ih0 := q24z.mono_l k
 unfold q24z.f
 repeat' first
   | (with_reducible exact ih0 _ _ _ _ _ _ _ _ _ _ _)
   | (with_reducible exact q23z.mono _ _ _ _ _ _ _ _ _ _ _ _ _)
   | (with_reducible exact LeO.refl _)
   | (with_reducible exact LeO.none _)
   | (with_reducible refine LeO.ite ?_ ?_)
   | (with_reducible refine LeO.bind ?_ (fun _ => ?_))
   | exact ih0 _ _ _ _ _ _ _ _ _ _ _
   | exact q23z.mono _ _ _ _ _ _ _ _ _ _ _ _ _
   | exact LeO.none _
   | refine LeO.ite ?_ ?_
   | refine LeO.bind ?_ (fun _ => ?_)
set_option maxHeartbeats 8000000 in
set_option maxRecDepth 100000 in
theorem q24z.calls (k : Nat) (A0 : Option Addr) (c0 : Nat) (l0 : List (S26)) (a1_0 : Int) (a1_1 : Int) (A1_2 : Option Addr) (c1_2 : Nat) (l1_2 : List Int) (A1_3 : Option Addr) (c1_3 : Nat) (l1_3 : List Int) (a1_4 : Int) (a1_5 : Int) (a1_6 : Int) (a1_7 : Int) (r1 : Int) (r2 : Int) (r3 : List Int) (r4 : List Int) (r5 : Int) (r6 : Int) (r7 : Int) (r8 : Int) (w : World) (hr0 : Kd.C k26 w A0 l0.length l0) (hc0 : l0.length ≤ c0) (hr1_2 : Kd.C (Kd.int .u32) w A1_2 l1_2.length l1_2) (hc1_2 : l1_2.length ≤ c1_2) (hr1_3 : Kd.C (Kd.int .u32) w A1_3 l1_3.length l1_3) (hc1_3 : l1_3.length ≤ c1_3) (h : q24z.f k l0 a1_0 a1_1 l1_2 l1_3 a1_4 a1_5 a1_6 a1_7 = some (r1, r2, r3, r4, r5, r6, r7, r8)) :
  Calls Try.prog 23 #[.slice A0 l0.length c0, .agg #[.int .u32 a1_0, .int .i64 a1_1, .slice A1_2 l1_2.length c1_2, .slice A1_3 l1_3.length c1_3, .int .u32 a1_4, .int .u32 a1_5, .int .i64 a1_6, .int .u32 a1_7]] w fun e w' => ∃ v2_ v3_ : Value, e = .returned (.agg #[.int .u32 r1, .int .i64 r2, v2_, v3_, .int .u32 r5, .int .u32 r6, .int .i64 r7, .int .u32 r8]) ∧ Kd.R (Kd.int .u32) 22 w' w.heap.size (fun k_ => some k_ ≠ (v3_ : Value).ownBlock) v2_ r3 ∧ Kd.R (Kd.int .u32) 22 w' w.heap.size (fun k_ => some k_ ≠ (v2_ : Value).ownBlock) v3_ r4 ∧ Below w.heap.size w w' := by
 have hu30 := Try.underlying30
 have hu26 := Try.underlying26
 have HR0 := Aside0.mk hr0
 have HC0 := Aside0.mk hc0
 clear hr0 hc0
 have HR1_2 := Aside0.mk hr1_2
 have HC1_2 := Aside0.mk hc1_2
 clear hr1_2 hc1_2
 have HR1_3 := Aside0.mk hr1_3
 have HC1_3 := Aside0.mk hc1_3
 clear hr1_3 hc1_3
 have HB := Aside0.mk (Below.refl w.heap.size w)
 have H : ((q19z.f a1_0 a1_1 l1_2 l1_3 a1_4 a1_5 a1_6 a1_7).bind fun bt3 => (q24z.l0 k l0 (l0.length : Int) 0 bt3.1 bt3.2.1 bt3.2.2.1 bt3.2.2.2.1 bt3.2.2.2.2.1 bt3.2.2.2.2.2.1 bt3.2.2.2.2.2.2.1 bt3.2.2.2.2.2.2.2)) = some (r1, r2, r3, r4, r5, r6, r7, r8) := h
 clear h
 replace H := Option.bind_eq_some_iff.mp H
 obtain ⟨⟨t3, t4, t5, t8, t11, t12, t13, t14⟩, A30, H⟩ := H
 replace H : (q24z.l0 k l0 (l0.length : Int) 0 t3 t4 t5 t8 t11 t12 t13 t14) = some (r1, r2, r3, r4, r5, r6, r7, r8) := H
 have A3 := Aside0.mk A30
 clear A30
 have H' := Aside0.mk H
 clear H
 go_enter Try.func23, Try.ntmps23
 go_wp2_with (first | ((with_reducible refine gate_dst (N := 3) rfl ?_); refine box_event ?hg (N := 3) ?hd (cs := #[.int .u32 a1_0, .int .i64 a1_1, .slice A1_2 l1_2.length c1_2, .slice A1_3 l1_3.length c1_3, .int .u32 a1_4, .int .u32 a1_5, .int .i64 a1_6, .int .u32 a1_7]) (t := 30) ?hr ?_; (case hd => rfl); (case hg => rfl); (case hr => first | (go_simp; done) | (go_simp; rfl)); intro gb1 hg w4 hbox hb; have BK1 := Aside0.mk (hbox); have GW1 := gwS hg HB; have GE1 := gwS hg HB; replace HB := hbS HB hb; clear hb hbox hg) | ((with_reducible refine gate_dst (N := 4) rfl ?_); refine box_event ?hg (N := 4) ?hd (cs := #[.int .u32 0, .int .i64 0, .slice none 0 0, .slice none 0 0, .int .u32 0, .int .u32 0, .int .i64 0, .int .u32 0]) (t := 30) ?hr ?_; (case hd => rfl); (case hg => rfl); (case hr => first | (go_simp; done) | (go_simp; rfl)); intro gb2 hg w5 hbox hb; have BK2 := Aside0.mk (hbox); have GW2 := gwS hg HB; have GE2 := gwS hg HB; have NB1_2 := nbL hg BK1; have NB2_1 := nbG hg BK1; replace BK1 := bkB BK1 hb; replace HB := hbS HB hb; clear hb hbox hg; have hnb6 := NB1_2.out; have hnc6 := NB2_1.out; obtain ⟨hcz7_0, hcz7_1, hcz7_2, hcz7_3, hcz7_4, hcz7_5, hcz7_6, hcz7_7, hfz7_0, hfz7_1, hfz7_2, hfz7_3, hfz7_4, hfz7_5, hfz7_6, hfz7_7⟩ := bc8 BK1) | ((with_reducible refine gate_callee (f := 12) rfl ?_); refine goesL_ (some 8) rfl rfl Try.func12 (by kernel_rfl) rfl #[.agg #[.int .u32 a1_0, .int .i64 a1_1, .slice A1_2 l1_2.length c1_2, .slice A1_3 l1_3.length c1_3, .int .u32 a1_4, .int .u32 a1_5, .int .i64 a1_6, .int .u32 a1_7]] rfl (by (try simp only [List.map_toArray, List.map_cons, List.map_nil]); first | done | rfl | (simp only [List.length_drop, List.length_take]; rfl)) ?_; (with_reducible refine (q19z.calls a1_0 a1_1 _ _ l1_2 _ _ l1_3 a1_4 a1_5 a1_6 a1_7 t3 t4 t5 t8 t11 t12 t13 t14 _ ?side1 ?side2 ?side3 ?side4 A3.out).mono ?_); (case side1 => repeat (first | exact (Kd.C_below HR1_2.out HB.out) | (with_reducible refine Kd.C_alloc ?_ _) | (with_reducible refine Kd.C_drewN ?_ _) | (with_reducible refine Kd.C_drew ?_))); (case side2 => exact HC1_2.out); (case side3 => repeat (first | exact (Kd.C_below HR1_3.out HB.out) | (with_reducible refine Kd.C_alloc ?_ _) | (with_reducible refine Kd.C_drewN ?_ _) | (with_reducible refine Kd.C_drew ?_))); (case side4 => exact HC1_3.out); rintro e w8 ⟨v6, v9, rfl, ho0, ho1, hb⟩; refine ⟨_, rfl, ?_⟩; have HO7 := Aside0.mk (Kd.R_lower ho0 (below_size (hbW HB))); have HO10 := Aside0.mk (Kd.R_lower ho1 (below_size (hbW HB))); replace BK1 := bkB BK1 hb; replace BK2 := bkB BK2 hb; replace HB := hbS HB hb; (try clear hb); (try clear ho0); (try clear ho1); obtain ⟨hcz9_0, hcz9_1, hcz9_2, hcz9_3, hcz9_4, hcz9_5, hcz9_6, hcz9_7, hfz9_0, hfz9_1, hfz9_2, hfz9_3, hfz9_4, hfz9_5, hfz9_6, hfz9_7⟩ := bc8 BK1; obtain ⟨Ao10, co10, eo10⟩ := Kd.R_slice HO7.out; subst eo10; obtain ⟨Ao11, co11, eo11⟩ := Kd.R_slice HO10.out; subst eo11))
 go_loopg [11] k (fun kq v11 w' => ∃ (x11_1 : Int) (x2000_1 : Int) (x2001_1 : Int) (x2002_1 : List Int) (x2003_1 : List Int) (x2004_1 : Int) (x2005_1 : Int) (x2006_1 : Int) (x2007_1 : Int) (u2002 : Value) (u2003 : Value), v11 = .int .i64 x11_1 ∧ Aside0 (q24z.l0 kq l0 (l0.length : Int) x11_1 x2000_1 x2001_1 x2002_1 x2003_1 x2004_1 x2005_1 x2006_1 x2007_1 = some (r1, r2, r3, r4, r5, r6, r7, r8)) ∧ Aside0 (kq ≤ k) ∧ Aside0 (Kd.R (Kd.int .u32) 22 w' w.heap.size (fun k_ => some k_ ≠ (u2003 : Value).ownBlock) u2002 x2002_1) ∧ Aside0 (Kd.R (Kd.int .u32) 22 w' w.heap.size (fun k_ => some k_ ≠ (u2002 : Value).ownBlock) u2003 x2003_1) ∧ Aside0 (w'.heap[gb1]? = some (.cells #[.int .u32 x2000_1, .int .i64 x2001_1, u2002, u2003, .int .u32 x2004_1, .int .u32 x2005_1, .int .i64 x2006_1, .int .u32 x2007_1] 30 (0, 0))) ∧ Aside0 (w'.heap[gb2]? = some (.cells #[.int .u32 0, .int .i64 0, (.slice none 0 0), (.slice none 0 0), .int .u32 0, .int .u32 0, .int .i64 0, .int .u32 0] 30 (0, 0))) ∧ Aside0 (Below w.heap.size w w'))
 case atStart => exact ⟨(0), (t3), (t4), (t5), (t8), (t11), (t12), (t13), (t14), (.slice Ao10 t5.length co10), (.slice Ao11 t8.length co11), (by first | rfl | (simp; done) | (simp [*]; done)), H', ⟨Nat.le_refl _⟩, ⟨moR (rW HO7)⟩, ⟨moR (rW HO10)⟩, ⟨by (with_reducible repeat (first | refine blk_drewN ?_ _ | refine blk_drew ?_ | refine blk_alloc ?_ _)); refine blk_put (cs := #[.int .u32 t3, .int .i64 t4, .slice Ao10 t5.length co10, .slice Ao11 t8.length co11, .int .u32 t11, .int .u32 t12, .int .i64 t13, .int .u32 a1_7]) ?_ 7 _ rfl; (with_reducible repeat (first | refine blk_drewN ?_ _ | refine blk_drew ?_ | refine blk_alloc ?_ _)); refine blk_put (cs := #[.int .u32 t3, .int .i64 t4, .slice Ao10 t5.length co10, .slice Ao11 t8.length co11, .int .u32 t11, .int .u32 t12, .int .i64 a1_6, .int .u32 a1_7]) ?_ 6 _ rfl; (with_reducible repeat (first | refine blk_drewN ?_ _ | refine blk_drew ?_ | refine blk_alloc ?_ _)); refine blk_put (cs := #[.int .u32 t3, .int .i64 t4, .slice Ao10 t5.length co10, .slice Ao11 t8.length co11, .int .u32 t11, .int .u32 a1_5, .int .i64 a1_6, .int .u32 a1_7]) ?_ 5 _ rfl; (with_reducible repeat (first | refine blk_drewN ?_ _ | refine blk_drew ?_ | refine blk_alloc ?_ _)); refine blk_put (cs := #[.int .u32 t3, .int .i64 t4, .slice Ao10 t5.length co10, .slice Ao11 t8.length co11, .int .u32 a1_4, .int .u32 a1_5, .int .i64 a1_6, .int .u32 a1_7]) ?_ 4 _ rfl; (with_reducible repeat (first | refine blk_drewN ?_ _ | refine blk_drew ?_ | refine blk_alloc ?_ _)); refine blk_put (cs := #[.int .u32 t3, .int .i64 t4, .slice Ao10 t5.length co10, .slice A1_3 l1_3.length c1_3, .int .u32 a1_4, .int .u32 a1_5, .int .i64 a1_6, .int .u32 a1_7]) ?_ 3 _ rfl; (with_reducible repeat (first | refine blk_drewN ?_ _ | refine blk_drew ?_ | refine blk_alloc ?_ _)); refine blk_put (cs := #[.int .u32 t3, .int .i64 t4, .slice A1_2 l1_2.length c1_2, .slice A1_3 l1_3.length c1_3, .int .u32 a1_4, .int .u32 a1_5, .int .i64 a1_6, .int .u32 a1_7]) ?_ 2 _ rfl; (with_reducible repeat (first | refine blk_drewN ?_ _ | refine blk_drew ?_ | refine blk_alloc ?_ _)); refine blk_put (cs := #[.int .u32 t3, .int .i64 a1_1, .slice A1_2 l1_2.length c1_2, .slice A1_3 l1_3.length c1_3, .int .u32 a1_4, .int .u32 a1_5, .int .i64 a1_6, .int .u32 a1_7]) ?_ 1 _ rfl; (with_reducible repeat (first | refine blk_drewN ?_ _ | refine blk_drew ?_ | refine blk_alloc ?_ _)); refine blk_put (cs := #[.int .u32 a1_0, .int .i64 a1_1, .slice A1_2 l1_2.length c1_2, .slice A1_3 l1_3.length c1_3, .int .u32 a1_4, .int .u32 a1_5, .int .i64 a1_6, .int .u32 a1_7]) ?_ 0 _ rfl; (with_reducible repeat (first | refine blk_drewN ?_ _ | refine blk_drew ?_ | refine blk_alloc ?_ _)); exact BK1.out⟩, ⟨by (with_reducible repeat (first | refine blk_drewN ?_ _ | refine blk_drew ?_ | refine blk_alloc ?_ _)); refine blk_far ?_ NB2_1.out _; (with_reducible repeat (first | refine blk_drewN ?_ _ | refine blk_drew ?_ | refine blk_alloc ?_ _)); refine blk_far ?_ NB2_1.out _; (with_reducible repeat (first | refine blk_drewN ?_ _ | refine blk_drew ?_ | refine blk_alloc ?_ _)); refine blk_far ?_ NB2_1.out _; (with_reducible repeat (first | refine blk_drewN ?_ _ | refine blk_drew ?_ | refine blk_alloc ?_ _)); refine blk_far ?_ NB2_1.out _; (with_reducible repeat (first | refine blk_drewN ?_ _ | refine blk_drew ?_ | refine blk_alloc ?_ _)); refine blk_far ?_ NB2_1.out _; (with_reducible repeat (first | refine blk_drewN ?_ _ | refine blk_drew ?_ | refine blk_alloc ?_ _)); refine blk_far ?_ NB2_1.out _; (with_reducible repeat (first | refine blk_drewN ?_ _ | refine blk_drew ?_ | refine blk_alloc ?_ _)); refine blk_far ?_ NB2_1.out _; (with_reducible repeat (first | refine blk_drewN ?_ _ | refine blk_drew ?_ | refine blk_alloc ?_ _)); refine blk_far ?_ NB2_1.out _; (with_reducible repeat (first | refine blk_drewN ?_ _ | refine blk_drew ?_ | refine blk_alloc ?_ _)); exact BK2.out⟩, ⟨hbW HB⟩⟩
 case round =>
  clear H'
  try clear c1
  try clear c2
  try clear p2
  try clear c6
  try clear hcz7_0 hcz7_1 hcz7_2 hcz7_3 hcz7_4 hcz7_5 hcz7_6 hcz7_7
  try clear hcz9_0 hcz9_1 hcz9_2 hcz9_3 hcz9_4 hcz9_5 hcz9_6 hcz9_7
  try clear hfz7_0 hfz7_1 hfz7_2 hfz7_3 hfz7_4 hfz7_5 hfz7_6 hfz7_7
  try clear hfz9_0 hfz9_1 hfz9_2 hfz9_3 hfz9_4 hfz9_5 hfz9_6 hfz9_7
  obtain ⟨x11_1, x2000_1, x2001_1, x2002_1, x2003_1, x2004_1, x2005_1, x2006_1, x2007_1, u2002, u2003, rfl, HA, HK1, HO_2002, HO_2003, BK1, BK2, HB⟩ := hrel
  cases gk with
  | zero => exact absurd HA.out (by simp [q24z.l0])
  | succ k1 =>
   have H := HA.out
   clear HA
   simp only [q24z.l0] at H
   by_cases c12 : x11_1 < (l0.length : Int)
   ·
    rw [if_pos c12] at H
    have c12b0 : decide (x11_1 < (l0.length : Int)) = true := decide_eq_true c12
    clear c12
    by_cases c13 : 0 ≤ x11_1
    ·
     rw [if_pos c13] at H
     have c13b0 : decide (0 ≤ x11_1) = true := decide_eq_true c13
     clear c13
     by_cases c14 : x11_1 < (l0.length : Int)
     ·
      rw [if_pos c14] at H
      have c14b0 : decide (x11_1 < (l0.length : Int)) = true := decide_eq_true c14
      clear c14
      replace H := Option.bind_eq_some_iff.mp H
      obtain ⟨⟨t17, t18, t19, t22, t25, t26, t27, t28⟩, A150, H⟩ := H
      replace H : (q24z.l0 k1 l0 (l0.length : Int) (wrap64 (x11_1 + 1)) t17 t18 t19 t22 t25 t26 t27 t28) = some (r1, r2, r3, r4, r5, r6, r7, r8) := H
      have A15 := Aside0.mk A150
      clear A150
      have H' := Aside0.mk H
      clear H
      have p15 : 0 ≤ (x11_1 : Int) := of_decide_eq_true (by first | (with_reducible assumption) | assumption)
      have q15 : x11_1 < (l0.length : Int) := of_decide_eq_true (by first | (with_reducible assumption) | assumption)
      obtain ⟨ad15, A15_2, c15_2, A15_3, c15_3, e15, hx15_0, hx15_1, hx15_2, hx15_3, hl15_2, hi15_2, hl15_3, hi15_3⟩ := at_T26 HR0.out x11_1 p15 q15
      cases e15
      replace hx15_0 := (HB.out.cell (World.block_lt_of_cell? w _ hx15_0)).trans hx15_0
      replace hx15_1 := (HB.out.cell (World.block_lt_of_cell? w _ hx15_1)).trans hx15_1
      replace hx15_2 := (HB.out.cell (World.block_lt_of_cell? w _ hx15_2)).trans hx15_2
      replace hx15_3 := (HB.out.cell (World.block_lt_of_cell? w _ hx15_3)).trans hx15_3
      have HR15_2 := Aside0.mk hi15_2
      have HC15_2 := Aside0.mk hl15_2
      clear hi15_2 hl15_2
      have HR15_3 := Aside0.mk hi15_3
      have HC15_3 := Aside0.mk hl15_3
      clear hi15_3 hl15_3
      replace p15 := eq_true p15
      replace q15 := eq_true q15
      go_wp2_with (first | ((with_reducible refine gate_dst (N := 6) rfl ?_); refine box_event ?hg (N := 6) ?hd (cs := #[.int .i64 0, .int .u32 0, .slice none 0 0, .slice none 0 0]) (t := 26) ?hr ?_; (case hd => rfl); (case hg => rfl); (case hr => first | (go_simp; done) | (go_simp; rfl)); intro gb16 hg w16 hbox hb; have BK16 := Aside0.mk (hbox); have GW16 := gwS hg HB; have GE16 := gwS hg HB; have NB1_16 := nbL hg BK1; have NB16_1 := nbG hg BK1; have NB2_16 := nbL hg BK2; have NB16_2 := nbG hg BK2; replace HO_2002 := Aside0.mk (Kd.R_below (rW HO_2002) hb); replace HO_2003 := Aside0.mk (Kd.R_below (rW HO_2003) hb); replace BK1 := bkB BK1 hb; replace BK2 := bkB BK2 hb; replace HB := hbS HB hb; clear hb hbox hg; have hnb17 := NB16_1.out; have hnc17 := NB1_16.out; have hnb18 := NB16_2.out; have hnc18 := NB2_16.out; obtain ⟨hcz19_0, hcz19_1, hcz19_2, hcz19_3, hfz19_0, hfz19_1, hfz19_2, hfz19_3⟩ := bc4 BK16; have hnb20 := NB1_2.out; have hnc20 := NB2_1.out; obtain ⟨hcz21_0, hcz21_1, hcz21_2, hcz21_3, hcz21_4, hcz21_5, hcz21_6, hcz21_7, hfz21_0, hfz21_1, hfz21_2, hfz21_3, hfz21_4, hfz21_5, hfz21_6, hfz21_7⟩ := bc8 BK1; obtain ⟨Ao22, co22, eo22⟩ := Kd.R_slice HO_2002.out; subst eo22; obtain ⟨Ao23, co23, eo23⟩ := Kd.R_slice HO_2003.out; subst eo23) | ((with_reducible refine gate_callee (f := 17) rfl ?_); refine goesL_ (some 17) rfl rfl Try.func17 (by kernel_rfl) rfl #[.agg #[.int .i64 ((rd_T26 l0 x11_1).f0), .int .u32 ((rd_T26 l0 x11_1).f1), .slice A15_2 ((rd_T26 l0 x11_1).f2).length c15_2, .slice A15_3 ((rd_T26 l0 x11_1).f3).length c15_3], .agg #[.int .u32 x2000_1, .int .i64 x2001_1, .slice Ao22 x2002_1.length co22, .slice Ao23 x2003_1.length co23, .int .u32 x2004_1, .int .u32 x2005_1, .int .i64 x2006_1, .int .u32 x2007_1]] rfl (by (try simp only [List.map_toArray, List.map_cons, List.map_nil]); first | done | rfl | (simp only [List.length_drop, List.length_take]; rfl)) ?_; (with_reducible refine (q23z.calls k1 ((rd_T26 l0 x11_1).f0) ((rd_T26 l0 x11_1).f1) _ _ ((rd_T26 l0 x11_1).f2) _ _ ((rd_T26 l0 x11_1).f3) x2000_1 x2001_1 _ _ x2002_1 _ _ x2003_1 x2004_1 x2005_1 x2006_1 x2007_1 t17 t18 t19 t22 t25 t26 t27 t28 _ ?side1 ?side2 ?side3 ?side4 ?side5 ?side6 ?side7 ?side8 A15.out).mono ?_); (case side1 => exact Kd.C_below HR15_2.out (hbW HB)); (case side2 => exact HC15_2.out); (case side3 => exact Kd.C_below HR15_3.out (hbW HB)); (case side4 => exact HC15_3.out); (case side5 => refine (Kd.R_reads' (e := 22) (base := w.heap.size) (ok := fun k_ => some k_ ≠ (.slice Ao23 x2003_1.length co23 : Value).ownBlock) (n := x2002_1.length) (c := co22) ?_).2.2; exact (rW HO_2002)); (case side6 => exact (Kd.R_reads' HO_2002.out).2.1); (case side7 => refine (Kd.R_reads' (e := 22) (base := w.heap.size) (ok := fun k_ => some k_ ≠ (.slice Ao22 x2002_1.length co22 : Value).ownBlock) (n := x2003_1.length) (c := co23) ?_).2.2; exact (rW HO_2003)); (case side8 => exact (Kd.R_reads' HO_2003.out).2.1); rintro e w24 ⟨v20, v23, rfl, ho0, ho1, hb⟩; refine ⟨_, rfl, ?_⟩; have HO21 := Aside0.mk (Kd.R_lower (Kd.R_new' (Kd.R_new' ho0 (Kd.R_lt (rW HO_2002))) (Kd.R_lt (rW HO_2003))) (below_size (hbW HB))); have HO24 := Aside0.mk (Kd.R_lower (Kd.R_new' (Kd.R_new' ho1 (Kd.R_lt (rW HO_2002))) (Kd.R_lt (rW HO_2003))) (below_size (hbW HB))); replace HO_2002 := Aside0.mk (Kd.R_mono (Kd.R_told (Kd.R_told (Kd.R_old (rW HO_2002) hb) (Kd.R_base ho0)) (Kd.R_base ho1)) (fun _ h_ => h_.1)); replace HO_2003 := Aside0.mk (Kd.R_mono (Kd.R_told (Kd.R_told (Kd.R_old (rW HO_2003) hb) (Kd.R_base ho0)) (Kd.R_base ho1)) (fun _ h_ => h_.1)); replace BK1 := bvB BK1 hb; replace BK2 := bvB BK2 hb; replace BK16 := Aside0.mk (blk_below (g := gb16) (o := .cells #[.int .i64 ((rd_T26 l0 x11_1).f0), .int .u32 ((rd_T26 l0 x11_1).f1), .slice A15_2 ((rd_T26 l0 x11_1).f2).length c15_2, .slice A15_3 ((rd_T26 l0 x11_1).f3).length c15_3] 26 (0, 0)) (bp4 BK16) hb); replace HB := hbS HB hb; (try clear hb); (try clear ho0); (try clear ho1); obtain ⟨hcz25_0, hcz25_1, hcz25_2, hcz25_3, hcz25_4, hcz25_5, hcz25_6, hcz25_7, hfz25_0, hfz25_1, hfz25_2, hfz25_3, hfz25_4, hfz25_5, hfz25_6, hfz25_7⟩ := bc8 BK1; obtain ⟨Ao26, co26, eo26⟩ := Kd.R_slice HO21.out; subst eo26; obtain ⟨Ao27, co27, eo27⟩ := Kd.R_slice HO24.out; subst eo27))
      go_roundg k1
      case measure => have := HK1.out; omega
      case rel => exact ⟨(wrap64 (x11_1 + 1)), (t17), (t18), (t19), (t22), (t25), (t26), (t27), (t28), (.slice Ao26 t19.length co26), (.slice Ao27 t22.length co27), (by first | rfl | (simp; done) | (simp [*]; done)), H', ⟨by have := HK1.out; omega⟩, ⟨moR (rW HO21)⟩, ⟨moR (rW HO24)⟩, ⟨by (with_reducible repeat (first | refine blk_drewN ?_ _ | refine blk_drew ?_ | refine blk_alloc ?_ _)); refine blk_put (cs := #[.int .u32 t17, .int .i64 t18, .slice Ao26 t19.length co26, .slice Ao27 t22.length co27, .int .u32 t25, .int .u32 t26, .int .i64 t27, .int .u32 x2007_1]) ?_ 7 _ rfl; (with_reducible repeat (first | refine blk_drewN ?_ _ | refine blk_drew ?_ | refine blk_alloc ?_ _)); refine blk_put (cs := #[.int .u32 t17, .int .i64 t18, .slice Ao26 t19.length co26, .slice Ao27 t22.length co27, .int .u32 t25, .int .u32 t26, .int .i64 x2006_1, .int .u32 x2007_1]) ?_ 6 _ rfl; (with_reducible repeat (first | refine blk_drewN ?_ _ | refine blk_drew ?_ | refine blk_alloc ?_ _)); refine blk_put (cs := #[.int .u32 t17, .int .i64 t18, .slice Ao26 t19.length co26, .slice Ao27 t22.length co27, .int .u32 t25, .int .u32 x2005_1, .int .i64 x2006_1, .int .u32 x2007_1]) ?_ 5 _ rfl; (with_reducible repeat (first | refine blk_drewN ?_ _ | refine blk_drew ?_ | refine blk_alloc ?_ _)); refine blk_put (cs := #[.int .u32 t17, .int .i64 t18, .slice Ao26 t19.length co26, .slice Ao27 t22.length co27, .int .u32 x2004_1, .int .u32 x2005_1, .int .i64 x2006_1, .int .u32 x2007_1]) ?_ 4 _ rfl; (with_reducible repeat (first | refine blk_drewN ?_ _ | refine blk_drew ?_ | refine blk_alloc ?_ _)); refine blk_put (cs := #[.int .u32 t17, .int .i64 t18, .slice Ao26 t19.length co26, .slice Ao23 x2003_1.length co23, .int .u32 x2004_1, .int .u32 x2005_1, .int .i64 x2006_1, .int .u32 x2007_1]) ?_ 3 _ rfl; (with_reducible repeat (first | refine blk_drewN ?_ _ | refine blk_drew ?_ | refine blk_alloc ?_ _)); refine blk_put (cs := #[.int .u32 t17, .int .i64 t18, .slice Ao22 x2002_1.length co22, .slice Ao23 x2003_1.length co23, .int .u32 x2004_1, .int .u32 x2005_1, .int .i64 x2006_1, .int .u32 x2007_1]) ?_ 2 _ rfl; (with_reducible repeat (first | refine blk_drewN ?_ _ | refine blk_drew ?_ | refine blk_alloc ?_ _)); refine blk_put (cs := #[.int .u32 t17, .int .i64 x2001_1, .slice Ao22 x2002_1.length co22, .slice Ao23 x2003_1.length co23, .int .u32 x2004_1, .int .u32 x2005_1, .int .i64 x2006_1, .int .u32 x2007_1]) ?_ 1 _ rfl; (with_reducible repeat (first | refine blk_drewN ?_ _ | refine blk_drew ?_ | refine blk_alloc ?_ _)); refine blk_put (cs := #[.int .u32 x2000_1, .int .i64 x2001_1, .slice Ao22 x2002_1.length co22, .slice Ao23 x2003_1.length co23, .int .u32 x2004_1, .int .u32 x2005_1, .int .i64 x2006_1, .int .u32 x2007_1]) ?_ 0 _ rfl; (with_reducible repeat (first | refine blk_drewN ?_ _ | refine blk_drew ?_ | refine blk_alloc ?_ _)); exact BK1.out⟩, ⟨by (with_reducible repeat (first | refine blk_drewN ?_ _ | refine blk_drew ?_ | refine blk_alloc ?_ _)); refine blk_far ?_ NB2_1.out _; (with_reducible repeat (first | refine blk_drewN ?_ _ | refine blk_drew ?_ | refine blk_alloc ?_ _)); refine blk_far ?_ NB2_1.out _; (with_reducible repeat (first | refine blk_drewN ?_ _ | refine blk_drew ?_ | refine blk_alloc ?_ _)); refine blk_far ?_ NB2_1.out _; (with_reducible repeat (first | refine blk_drewN ?_ _ | refine blk_drew ?_ | refine blk_alloc ?_ _)); refine blk_far ?_ NB2_1.out _; (with_reducible repeat (first | refine blk_drewN ?_ _ | refine blk_drew ?_ | refine blk_alloc ?_ _)); refine blk_far ?_ NB2_1.out _; (with_reducible repeat (first | refine blk_drewN ?_ _ | refine blk_drew ?_ | refine blk_alloc ?_ _)); refine blk_far ?_ NB2_1.out _; (with_reducible repeat (first | refine blk_drewN ?_ _ | refine blk_drew ?_ | refine blk_alloc ?_ _)); refine blk_far ?_ NB2_1.out _; (with_reducible repeat (first | refine blk_drewN ?_ _ | refine blk_drew ?_ | refine blk_alloc ?_ _)); refine blk_far ?_ NB2_1.out _; (with_reducible repeat (first | refine blk_drewN ?_ _ | refine blk_drew ?_ | refine blk_alloc ?_ _)); exact BK2.out⟩, ⟨hbW HB⟩⟩
     ·
      rw [if_neg c14] at H
      exact absurd H (by simp)
    ·
     rw [if_neg c13] at H
     exact absurd H (by simp)
   ·
    rw [if_neg c12] at H
    have c12b0 : decide (x11_1 < (l0.length : Int)) = false := decide_eq_false c12
    clear c12
    simp only [Option.some.injEq, Prod.mk.injEq] at H
    obtain ⟨rfl, rfl, rfl, rfl, rfl, rfl, rfl, rfl⟩ := H
    have hnb28 := NB1_2.out
    have hnc28 := NB2_1.out
    obtain ⟨hcz29_0, hcz29_1, hcz29_2, hcz29_3, hcz29_4, hcz29_5, hcz29_6, hcz29_7, hfz29_0, hfz29_1, hfz29_2, hfz29_3, hfz29_4, hfz29_5, hfz29_6, hfz29_7⟩ := bc8 BK1
    obtain ⟨hcz30_0, hcz30_1, hcz30_2, hcz30_3, hcz30_4, hcz30_5, hcz30_6, hcz30_7, hfz30_0, hfz30_1, hfz30_2, hfz30_3, hfz30_4, hfz30_5, hfz30_6, hfz30_7⟩ := bc8 BK2
    obtain ⟨Ao31, co31, eo31⟩ := Kd.R_slice HO_2002.out
    subst eo31
    obtain ⟨Ao32, co32, eo32⟩ := Kd.R_slice HO_2003.out
    subst eo32
    go_wp2
    refine bodyPost_ret (results_cell_row rfl _ _ gb2 30 #[.int .u32 x2000_1, .int .i64 x2001_1, .slice Ao31 x2002_1.length co31, .slice Ao32 x2003_1.length co32, .int .u32 x2004_1, .int .u32 x2005_1, .int .i64 x2006_1, .int .u32 x2007_1] (0, 0) _ rfl (bp8 BK2) Try.underlying30 rfl (by kernel_rfl)) rfl ?_
    exact ⟨_, _, by first | rfl | (simp [errW_none, errW_some] <;> rfl) | (simp [*, errW_none, errW_some] <;> rfl), moR (rW HO_2002), moR (rW HO_2003), hbW HB⟩

/-! ### dragomanref03_number: function 35 -/
def q25z.f (a0 : Int) (a1 : Int) : Option (Int) := if a0 < a1 then (some (-1)) else (if a0 > a1 then (some 1) else (some 0))
set_option maxHeartbeats 8000000 in
set_option maxRecDepth 100000 in
theorem q25z.calls (a0 : Int) (a1 : Int) (r : Int) (w : World) (h : q25z.f a0 a1 = some r) :
  Calls Try.prog 35 #[.int .i64 a0, .int .i64 a1] w fun e w' => e = .returned (.int .i64 r) ∧ Drawn0 w w' := by
 have H : (if a0 < a1 then (some (-1)) else (if a0 > a1 then (some 1) else (some 0))) = some r := h
 clear h
 by_cases c3 : a0 < a1
 ·
  rw [if_pos c3] at H
  have c3b0 : decide (a0 < a1) = true := decide_eq_true c3
  clear c3
  obtain rfl := Option.some.inj H
  go_enter Try.func35, Try.ntmps35
  go_wp2
  go_ret
  exact ⟨by first | rfl | (simp; done) | (simp [*]; done), by repeat (first | exact Drawn0.refl _ | apply Drawn0.step)⟩
 ·
  rw [if_neg c3] at H
  have c3b0 : decide (a0 < a1) = false := decide_eq_false c3
  clear c3
  by_cases c4 : a0 > a1
  ·
   rw [if_pos c4] at H
   have c4b0 : decide (a1 < a0) = true := decide_eq_true c4
   clear c4
   obtain rfl := Option.some.inj H
   go_enter Try.func35, Try.ntmps35
   go_wp2
   go_ret
   exact ⟨by first | rfl | (simp; done) | (simp [*]; done), by repeat (first | exact Drawn0.refl _ | apply Drawn0.step)⟩
  ·
   rw [if_neg c4] at H
   have c4b0 : decide (a1 < a0) = false := decide_eq_false c4
   clear c4
   obtain rfl := Option.some.inj H
   go_enter Try.func35, Try.ntmps35
   go_wp2
   go_ret
   exact ⟨by first | rfl | (simp; done) | (simp [*]; done), by repeat (first | exact Drawn0.refl _ | apply Drawn0.step)⟩

/-! ### dragomanref03_list: function 36 -/
mutual
def q26z.l0 : Nat → List Int → List Int → Int → Option (Int)
 | 0, _, _, _ => none
 | k + 1, x0, x1, x5 => if x5 < (x0.length : Int) then (q26z.j1 k x0 x1 x5 (decide (x5 < (x1.length : Int)))) else (q26z.j1 k x0 x1 x5 false)
def q26z.j1 : Nat → List Int → List Int → Int → Bool → Option (Int)
 | 0, _, _, _, _ => none
 | k + 1, x0, x1, x5, x15 => if x15 = true then (if 0 ≤ x5 then (if x5 < (x0.length : Int) then (if x5 < (x1.length : Int) then (if (rd x0 x5) = (rd x1 x5) then (q26z.l0 k x0 x1 (wrap64 (x5 + 1))) else ((q25z.f (wrap64 (rd x0 x5)) (wrap64 (rd x1 x5))).bind fun t5 => (some t5))) else (none)) else (none)) else (none)) else ((q25z.f (x0.length : Int) (x1.length : Int)).bind fun t6 => (some t6))
end
def q26z.f (k : Nat) (l0 : List Int) (l1 : List Int) : Option (Int) := q26z.l0 k l0 l1 0
theorem q26z.mono_l : ∀ k, (∀ y0 y1 y2, LeO (q26z.l0 k y0 y1 y2) (q26z.l0 (k + 1) y0 y1 y2)) ∧ (∀ y0 y1 y2 y3, LeO (q26z.j1 k y0 y1 y2 y3) (q26z.j1 (k + 1) y0 y1 y2 y3))
 | 0 => ⟨fun _ _ _ r h => by simp [q26z.l0] at h, fun _ _ _ _ r h => by simp [q26z.j1] at h⟩
 | k + 1 => by
  obtain ⟨ih0, ih1⟩ := q26z.mono_l k
  refine ⟨?_, ?_⟩
  ·
   intro y0 y1 y2
   unfold q26z.l0
   repeat' first
   | (with_reducible exact ih0 _ _ _)
   | (with_reducible exact ih1 _ _ _ _)
   | (with_reducible exact LeO.refl _)
   | (with_reducible exact LeO.none _)
   | (with_reducible refine LeO.ite ?_ ?_)
   | (with_reducible refine LeO.bind ?_ (fun _ => ?_))
   | exact ih0 _ _ _
   | exact ih1 _ _ _ _
   | exact LeO.none _
   | refine LeO.ite ?_ ?_
   | refine LeO.bind ?_ (fun _ => ?_)
  ·
   intro y0 y1 y2 y3
   unfold q26z.j1
   repeat' first
   | (with_reducible exact ih0 _ _ _)
   | (with_reducible exact ih1 _ _ _ _)
   | (with_reducible exact LeO.refl _)
   | (with_reducible exact LeO.none _)
   | (with_reducible refine LeO.ite ?_ ?_)
   | (with_reducible refine LeO.bind ?_ (fun _ => ?_))
   | exact ih0 _ _ _
   | exact ih1 _ _ _ _
   | exact LeO.none _
   | refine LeO.ite ?_ ?_
   | refine LeO.bind ?_ (fun _ => ?_)
theorem q26z.mono : ∀ a0 a1 k, LeO (q26z.f k a0 a1) (q26z.f (k + 1) a0 a1) := by
 intro a0 a1 k
 obtain ⟨ih0, ih1⟩ := q26z.mono_l k
 unfold q26z.f
 repeat' first
   | (with_reducible exact ih0 _ _ _)
   | (with_reducible exact ih1 _ _ _ _)
   | (with_reducible exact LeO.refl _)
   | (with_reducible exact LeO.none _)
   | (with_reducible refine LeO.ite ?_ ?_)
   | (with_reducible refine LeO.bind ?_ (fun _ => ?_))
   | exact ih0 _ _ _
   | exact ih1 _ _ _ _
   | exact LeO.none _
   | refine LeO.ite ?_ ?_
   | refine LeO.bind ?_ (fun _ => ?_)
set_option maxHeartbeats 8000000 in
set_option maxRecDepth 100000 in
theorem q26z.calls (k : Nat) (A0 : Option Addr) (c0 : Nat) (l0 : List Int) (A1 : Option Addr) (c1 : Nat) (l1 : List Int) (r : Int) (w : World) (hr0 : Kd.C (Kd.int .u32) w A0 l0.length l0) (hc0 : l0.length ≤ c0) (hr1 : Kd.C (Kd.int .u32) w A1 l1.length l1) (hc1 : l1.length ≤ c1) (h : q26z.f k l0 l1 = some r) :
  Calls Try.prog 36 #[.slice A0 l0.length c0, .slice A1 l1.length c1] w fun e w' => e = .returned (.int .i64 r) ∧ Drawn0 w w' := by
 have HR0 := Aside0.mk hr0
 have HC0 := Aside0.mk hc0
 clear hr0 hc0
 have HR1 := Aside0.mk hr1
 have HC1 := Aside0.mk hc1
 clear hr1 hc1
 have H : (q26z.l0 k l0 l1 0) = some r := h
 clear h
 have H' := Aside0.mk H
 clear H
 go_enter Try.func36, Try.ntmps36
 go_wp2
 repeat (go_quiet (fail); try go_wp2)
 go_loopg [5] k (fun kq v5 w' => ∃ (x5_1 : Int), v5 = .int .i64 x5_1 ∧ Aside0 (q26z.l0 kq l0 l1 x5_1 = some r) ∧ Aside0 (kq ≤ k) ∧ Drawn0 w w')
 case atStart => exact ⟨(0), (by first | rfl | (simp; done) | (simp [*]; done)), H', ⟨Nat.le_refl _⟩, by repeat (first | exact Drawn0.refl _ | apply Drawn0.step)⟩
 case round =>
  clear H'
  try clear c1
  try clear p2
  obtain ⟨x5_1, rfl, HA, HK1, ⟨m1, rfl⟩⟩ := hrel
  cases gk with
  | zero => exact absurd HA.out (by simp [q26z.l0])
  | succ k1 =>
   have H := HA.out
   clear HA
   simp only [q26z.l0] at H
   have HC3 := Aside0.mk H
   clear H
   go_upto_region 2 with (fail)
   repeat (go_quiet (fail); go_upto_region 2 with (fail))
   go_cut [15] (fun v15 wc => ∃ (kq : Nat) (x15_2 : Bool), v15 = .bool x15_2 ∧ Aside0 (q26z.j1 kq l0 l1 x5_1 x15_2 = some r) ∧ Aside0 (kq ≤ k1) ∧ Drawn0 w wc)
   case first =>
    have H := HC3.out
    clear HC3
    by_cases c4 : x5_1 < (l0.length : Int)
    ·
     rw [if_pos c4] at H
     have c4b0 : decide (x5_1 < (l0.length : Int)) = true := decide_eq_true c4
     clear c4
     (first | rw [c4b0] | (simp only [i64_w, i32_w, IntKind.wrap_u32]; rw [c4b0]) | skip)
     have H' := Aside0.mk H
     clear H
     go_wp2
     repeat (go_quiet (fail); try go_wp2)
     go_meet
     case rel => exact ⟨_, (decide (x5_1 < (l1.length : Int))), (by first | rfl | (simp; done) | (simp [*]; done)), H', ⟨by have := HK1.out; first | omega | exact Nat.le_refl _⟩, by repeat (first | exact Drawn0.refl _ | apply Drawn0.step)⟩
    ·
     rw [if_neg c4] at H
     have c4b0 : decide (x5_1 < (l0.length : Int)) = false := decide_eq_false c4
     clear c4
     (first | rw [c4b0] | (simp only [i64_w, i32_w, IntKind.wrap_u32]; rw [c4b0]) | skip)
     have H' := Aside0.mk H
     clear H
     go_wp2
     repeat (go_quiet (fail); try go_wp2)
     go_meet
     case rel => exact ⟨_, (false), (by first | rfl | (simp; done) | (simp [*]; done)), H', ⟨by have := HK1.out; first | omega | exact Nat.le_refl _⟩, by repeat (first | exact Drawn0.refl _ | apply Drawn0.step)⟩
   case rest =>
    clear HC3
    try clear c1
    try clear p2
    try clear c3
    try clear c4
    try clear c4b0
    try clear p2
    obtain ⟨kq, x15_2, rfl, HA, HJ2, ⟨mc2, rfl⟩⟩ := hcut
    cases kq with
    | zero => exact absurd HA.out (by simp [q26z.j1])
    | succ kj2 =>
     have H := HA.out
     clear HA
     simp only [q26z.j1] at H
     by_cases c5 : x15_2 = true
     ·
      subst c5
      have H1 : (if 0 ≤ x5_1 then (if x5_1 < (l0.length : Int) then (if x5_1 < (l1.length : Int) then (if (rd l0 x5_1) = (rd l1 x5_1) then (q26z.l0 kj2 l0 l1 (wrap64 (x5_1 + 1))) else ((q25z.f (wrap64 (rd l0 x5_1)) (wrap64 (rd l1 x5_1))).bind fun t5 => (some t5))) else (none)) else (none)) else (none)) = some r := by rw [if_pos rfl] at H; exact H
      clear H
      have H := H1
      clear H1
      by_cases c6 : 0 ≤ x5_1
      ·
       rw [if_pos c6] at H
       have c6b0 : decide (0 ≤ x5_1) = true := decide_eq_true c6
       clear c6
       by_cases c7 : x5_1 < (l0.length : Int)
       ·
        rw [if_pos c7] at H
        have c7b0 : decide (x5_1 < (l0.length : Int)) = true := decide_eq_true c7
        clear c7
        by_cases c8 : x5_1 < (l1.length : Int)
        ·
         rw [if_pos c8] at H
         have c8b0 : decide (x5_1 < (l1.length : Int)) = true := decide_eq_true c8
         clear c8
         by_cases c9 : (rd l0 x5_1) = (rd l1 x5_1)
         ·
          rw [if_pos c9] at H
          have c9b0 : ((rd l0 x5_1) == (rd l1 x5_1)) = true := beq_iff_eq.mpr c9
          have c9b1 : ((rd l0 x5_1) != (rd l1 x5_1)) = false := bne_eq_false_iff_eq.mpr c9
          clear c9
          have H' := Aside0.mk H
          clear H
          have p1 : 0 ≤ (x5_1 : Int) := of_decide_eq_true (by first | (with_reducible assumption) | assumption)
          have q1 : x5_1 < (l0.length : Int) := of_decide_eq_true (by first | (with_reducible assumption) | assumption)
          obtain ⟨ad1, e1, hx1_0⟩ := Kd.at_int HR0.out x5_1 p1 q1
          cases e1
          replace p1 := eq_true p1
          replace q1 := eq_true q1
          have p2 : 0 ≤ (x5_1 : Int) := of_decide_eq_true (by first | (with_reducible assumption) | assumption)
          have q2 : x5_1 < (l1.length : Int) := of_decide_eq_true (by first | (with_reducible assumption) | assumption)
          obtain ⟨ad2, e2, hx2_0⟩ := Kd.at_int HR1.out x5_1 p2 q2
          cases e2
          replace p2 := eq_true p2
          replace q2 := eq_true q2
          go_wp2
          repeat (go_quiet (fail); try go_wp2)
          go_roundg kj2
          case measure => have := HK1.out; have := HJ2.out; omega
          case rel => exact ⟨(wrap64 (x5_1 + 1)), (by first | rfl | (simp; done) | (simp [*]; done)), H', ⟨by have := HK1.out; have := HJ2.out; omega⟩, by repeat (first | exact Drawn0.refl _ | apply Drawn0.step)⟩
         ·
          rw [if_neg c9] at H
          have c9b0 : ((rd l0 x5_1) == (rd l1 x5_1)) = false := beq_eq_false_iff_ne.mpr c9
          have c9b1 : ((rd l0 x5_1) != (rd l1 x5_1)) = true := bne_iff_ne.mpr c9
          replace H := Option.bind_eq_some_iff.mp H
          obtain ⟨t5, A100, H⟩ := H
          replace H : (some t5) = some r := H
          have A10 := Aside0.mk A100
          clear A100
          obtain rfl := Option.some.inj H
          have p1 : 0 ≤ (x5_1 : Int) := of_decide_eq_true (by first | (with_reducible assumption) | assumption)
          have q1 : x5_1 < (l0.length : Int) := of_decide_eq_true (by first | (with_reducible assumption) | assumption)
          obtain ⟨ad1, e1, hx1_0⟩ := Kd.at_int HR0.out x5_1 p1 q1
          cases e1
          replace p1 := eq_true p1
          replace q1 := eq_true q1
          have p2 : 0 ≤ (x5_1 : Int) := of_decide_eq_true (by first | (with_reducible assumption) | assumption)
          have q2 : x5_1 < (l1.length : Int) := of_decide_eq_true (by first | (with_reducible assumption) | assumption)
          obtain ⟨ad2, e2, hx2_0⟩ := Kd.at_int HR1.out x5_1 p2 q2
          cases e2
          replace p2 := eq_true p2
          replace q2 := eq_true q2
          have p3 : 0 ≤ (x5_1 : Int) := of_decide_eq_true (by first | (with_reducible assumption) | assumption)
          have q3 : x5_1 < (l0.length : Int) := of_decide_eq_true (by first | (with_reducible assumption) | assumption)
          obtain ⟨ad3, e3, hx3_0⟩ := Kd.at_int HR0.out x5_1 p3 q3
          obtain rfl : ad1 = ad3 := (by injection e3)
          replace p3 := eq_true p3
          replace q3 := eq_true q3
          have p4 : 0 ≤ (x5_1 : Int) := of_decide_eq_true (by first | (with_reducible assumption) | assumption)
          have q4 : x5_1 < (l1.length : Int) := of_decide_eq_true (by first | (with_reducible assumption) | assumption)
          obtain ⟨ad4, e4, hx4_0⟩ := Kd.at_int HR1.out x5_1 p4 q4
          obtain rfl : ad2 = ad4 := (by injection e4)
          replace p4 := eq_true p4
          replace q4 := eq_true q4
          go_wp2_with (first | (go_at_call 35; (with_reducible refine (q25z.calls (wrap64 (rd l0 x5_1)) (wrap64 (rd l1 x5_1)) t5 _ A10.out).mono ?_); rintro e w' ⟨rfl, ⟨nd, rfl⟩⟩; (try first | exact ⟨rfl, _, World.drewN_drewN _ _ _⟩ | exact ⟨rfl, _, Eq.trans (World.drewN_drewN _ _ _) (congrArg (World.drewN _) (Nat.add_assoc _ _ _))⟩)))
          repeat (go_quiet (first | (go_at_call 35; (with_reducible refine (q25z.calls (wrap64 (rd l0 x5_1)) (wrap64 (rd l1 x5_1)) t5 _ A10.out).mono ?_); rintro e w' ⟨rfl, ⟨nd, rfl⟩⟩; (try first | exact ⟨rfl, _, World.drewN_drewN _ _ _⟩ | exact ⟨rfl, _, Eq.trans (World.drewN_drewN _ _ _) (congrArg (World.drewN _) (Nat.add_assoc _ _ _))⟩))); try go_wp2_with (first | (go_at_call 35; (with_reducible refine (q25z.calls (wrap64 (rd l0 x5_1)) (wrap64 (rd l1 x5_1)) t5 _ A10.out).mono ?_); rintro e w' ⟨rfl, ⟨nd, rfl⟩⟩; (try first | exact ⟨rfl, _, World.drewN_drewN _ _ _⟩ | exact ⟨rfl, _, Eq.trans (World.drewN_drewN _ _ _) (congrArg (World.drewN _) (Nat.add_assoc _ _ _))⟩))))
          go_ret
          exact ⟨by first | rfl | (simp; done) | (simp [*]; done), by repeat (first | exact Drawn0.refl _ | apply Drawn0.step)⟩
        ·
         rw [if_neg c8] at H
         exact absurd H (by simp)
       ·
        rw [if_neg c7] at H
        exact absurd H (by simp)
      ·
       rw [if_neg c6] at H
       exact absurd H (by simp)
     ·
      replace c5 := Bool.eq_false_iff.mpr c5
      subst c5
      have H1 : ((q25z.f (l0.length : Int) (l1.length : Int)).bind fun t6 => (some t6)) = some r := by rw [if_neg (show ¬ (false = true) by decide)] at H; exact H
      clear H
      have H := H1
      clear H1
      replace H := Option.bind_eq_some_iff.mp H
      obtain ⟨t6, A110, H⟩ := H
      replace H : (some t6) = some r := H
      have A11 := Aside0.mk A110
      clear A110
      obtain rfl := Option.some.inj H
      go_wp2_with (first | (go_at_call 35; (with_reducible refine (q25z.calls (l0.length : Int) (l1.length : Int) t6 _ A11.out).mono ?_); rintro e w' ⟨rfl, ⟨nd, rfl⟩⟩; (try first | exact ⟨rfl, _, World.drewN_drewN _ _ _⟩ | exact ⟨rfl, _, Eq.trans (World.drewN_drewN _ _ _) (congrArg (World.drewN _) (Nat.add_assoc _ _ _))⟩)))
      repeat (go_quiet (first | (go_at_call 35; (with_reducible refine (q25z.calls (l0.length : Int) (l1.length : Int) t6 _ A11.out).mono ?_); rintro e w' ⟨rfl, ⟨nd, rfl⟩⟩; (try first | exact ⟨rfl, _, World.drewN_drewN _ _ _⟩ | exact ⟨rfl, _, Eq.trans (World.drewN_drewN _ _ _) (congrArg (World.drewN _) (Nat.add_assoc _ _ _))⟩))); try go_wp2_with (first | (go_at_call 35; (with_reducible refine (q25z.calls (l0.length : Int) (l1.length : Int) t6 _ A11.out).mono ?_); rintro e w' ⟨rfl, ⟨nd, rfl⟩⟩; (try first | exact ⟨rfl, _, World.drewN_drewN _ _ _⟩ | exact ⟨rfl, _, Eq.trans (World.drewN_drewN _ _ _) (congrArg (World.drewN _) (Nat.add_assoc _ _ _))⟩))))
      go_ret
      exact ⟨by first | rfl | (simp; done) | (simp [*]; done), by repeat (first | exact Drawn0.refl _ | apply Drawn0.step)⟩

end Go.Proofs.Ytgelpccjdndfoaa.P
