/- Part of the proof of the law RouteValid: the functions that it reaches, by contract. -/
import Derived.Test.YthekledcoeeheaaCRouteValid0
namespace Go.Proofs.Ythekledcoeeheaa.P
open Go.RowKit Go.Proofs.YthekledcoeeheaaW.PrintWords Go.Proofs.YthekledcoeeheaaW.PrintLast Go.Proofs.YthekledcoeeheaaW.PrintMore
attribute [local go_sem] max2_int min2_int max_two min_two max_three min_three max_four min_four
set_option linter.unusedVariables false
set_option linter.unusedSimpArgs false

/-! ### route_Canon: function 36 -/
def q9z.f (k : Nat) (a0_0 : Int) (a0_1 : Int) (l0_2 : List Int) (l0_3 : List Int) (a0_4 : Int) (a0_5 : Int) (a0_6 : Int) (a0_7 : Int) : Option (Int × Int × List Int × List Int × Int × Int × Int × Int) := (q8z.f a0_0 a0_1 l0_2 l0_3 a0_4 a0_5 a0_6 a0_7).bind fun bt3 => ((q1z.f bt3.1 bt3.2.1).bind fun bt15 => ((Sort_u32.f k bt3.2.2.2.1).bind fun t17 => ((Compact_u32.f t17).bind fun t18 => (some (bt15.1, bt15.2, bt3.2.2.1, t18, bt3.2.2.2.2.1, bt3.2.2.2.2.2.1, bt3.2.2.2.2.2.2.1, bt3.2.2.2.2.2.2.2)))))
theorem q9z.mono : ∀ a0 a1 a2 a3 a4 a5 a6 a7 k, LeO (q9z.f k a0 a1 a2 a3 a4 a5 a6 a7) (q9z.f (k + 1) a0 a1 a2 a3 a4 a5 a6 a7) := by
 intro a0 a1 a2 a3 a4 a5 a6 a7 k
 unfold q9z.f
 repeat' first
   | (with_reducible exact Sort_u32.mono _ _)
   | (with_reducible exact LeO.refl _)
   | (with_reducible exact LeO.none _)
   | (with_reducible refine LeO.ite ?_ ?_)
   | (with_reducible refine LeO.bind ?_ (fun _ => ?_))
   | exact Sort_u32.mono _ _
   | exact LeO.none _
   | refine LeO.ite ?_ ?_
   | refine LeO.bind ?_ (fun _ => ?_)
set_option maxHeartbeats 8000000 in
set_option maxRecDepth 100000 in
theorem q9z.calls (k : Nat) (a0_0 : Int) (a0_1 : Int) (A0_2 : Option Addr) (c0_2 : Nat) (l0_2 : List Int) (A0_3 : Option Addr) (c0_3 : Nat) (l0_3 : List Int) (a0_4 : Int) (a0_5 : Int) (a0_6 : Int) (a0_7 : Int) (r1 : Int) (r2 : Int) (r3 : List Int) (r4 : List Int) (r5 : Int) (r6 : Int) (r7 : Int) (r8 : Int) (w : World) (hr0_2 : Kd.C (Kd.int .u32) w A0_2 l0_2.length l0_2) (hc0_2 : l0_2.length ≤ c0_2) (hr0_3 : Kd.C (Kd.int .u32) w A0_3 l0_3.length l0_3) (hc0_3 : l0_3.length ≤ c0_3) (h : q9z.f k a0_0 a0_1 l0_2 l0_3 a0_4 a0_5 a0_6 a0_7 = some (r1, r2, r3, r4, r5, r6, r7, r8)) :
  Calls Try.prog 36 #[.agg #[.int .u32 a0_0, .int .i64 a0_1, .slice A0_2 l0_2.length c0_2, .slice A0_3 l0_3.length c0_3, .int .u32 a0_4, .int .u32 a0_5, .int .i64 a0_6, .int .u32 a0_7]] w fun e w' => ∃ v2_ v3_ : Value, e = .returned (.agg #[.int .u32 r1, .int .i64 r2, v2_, v3_, .int .u32 r5, .int .u32 r6, .int .i64 r7, .int .u32 r8]) ∧ Kd.R (Kd.int .u32) 33 w' w.heap.size (fun k_ => some k_ ≠ (v3_ : Value).ownBlock) v2_ r3 ∧ Kd.R (Kd.int .u32) 33 w' w.heap.size (fun k_ => some k_ ≠ (v2_ : Value).ownBlock) v3_ r4 ∧ Below w.heap.size w w' := by
 have hu38 := Try.underlying38
 have hu35 := Try.underlying35
 have HR0_2 := Aside0.mk hr0_2
 have HC0_2 := Aside0.mk hc0_2
 clear hr0_2 hc0_2
 have HR0_3 := Aside0.mk hr0_3
 have HC0_3 := Aside0.mk hc0_3
 clear hr0_3 hc0_3
 have HB := Aside0.mk (Below.refl w.heap.size w)
 have H : ((q8z.f a0_0 a0_1 l0_2 l0_3 a0_4 a0_5 a0_6 a0_7).bind fun bt3 => ((q1z.f bt3.1 bt3.2.1).bind fun bt15 => ((Sort_u32.f k bt3.2.2.2.1).bind fun t17 => ((Compact_u32.f t17).bind fun t18 => (some (bt15.1, bt15.2, bt3.2.2.1, t18, bt3.2.2.2.2.1, bt3.2.2.2.2.2.1, bt3.2.2.2.2.2.2.1, bt3.2.2.2.2.2.2.2)))))) = some (r1, r2, r3, r4, r5, r6, r7, r8) := h
 clear h
 replace H := Option.bind_eq_some_iff.mp H
 obtain ⟨⟨t3, t4, t5, t8, t11, t12, t13, t14⟩, A20, H⟩ := H
 replace H : ((q1z.f t3 t4).bind fun bt15 => ((Sort_u32.f k t8).bind fun t17 => ((Compact_u32.f t17).bind fun t18 => (some (bt15.1, bt15.2, t5, t18, t11, t12, t13, t14))))) = some (r1, r2, r3, r4, r5, r6, r7, r8) := H
 have A2 := Aside0.mk A20
 clear A20
 replace H := Option.bind_eq_some_iff.mp H
 obtain ⟨⟨t15, t16⟩, A30, H⟩ := H
 replace H : ((Sort_u32.f k t8).bind fun t17 => ((Compact_u32.f t17).bind fun t18 => (some (t15, t16, t5, t18, t11, t12, t13, t14)))) = some (r1, r2, r3, r4, r5, r6, r7, r8) := H
 have A3 := Aside0.mk A30
 clear A30
 replace H := Option.bind_eq_some_iff.mp H
 obtain ⟨t17, A40, H⟩ := H
 replace H : ((Compact_u32.f t17).bind fun t18 => (some (t15, t16, t5, t18, t11, t12, t13, t14))) = some (r1, r2, r3, r4, r5, r6, r7, r8) := H
 have A4 := Aside0.mk A40
 clear A40
 replace H := Option.bind_eq_some_iff.mp H
 obtain ⟨t18, A50, H⟩ := H
 replace H : (some (t15, t16, t5, t18, t11, t12, t13, t14)) = some (r1, r2, r3, r4, r5, r6, r7, r8) := H
 have A5 := Aside0.mk A50
 clear A50
 simp only [Option.some.injEq, Prod.mk.injEq] at H
 obtain ⟨rfl, rfl, rfl, rfl, rfl, rfl, rfl, rfl⟩ := H
 go_enter Try.func36, Try.ntmps36
 go_wp2_with (first | ((with_reducible refine gate_dst (N := 1) rfl ?_); refine box_event ?hg (N := 1) ?hd (cs := #[.int .u32 a0_0, .int .i64 a0_1, .slice A0_2 l0_2.length c0_2, .slice A0_3 l0_3.length c0_3, .int .u32 a0_4, .int .u32 a0_5, .int .i64 a0_6, .int .u32 a0_7]) (t := 38) ?hr ?_; (case hd => rfl); (case hg => rfl); (case hr => first | (go_simp; done) | (go_simp; rfl)); intro gb1 hg w6 hbox hb; have n0_ := Aside0.mk (below_step (by repeat (first | (with_reducible first | exact HB.out | apply below_alloc | apply pw_below_drewN | apply below_drew1) | exact HB.out)) hb); have n1_ := Aside0.mk (hbox); have n2_ := Aside0.mk ((by rw [hg]; exact (below_size (by repeat (first | (with_reducible first | exact HB.out | apply below_alloc | apply pw_below_drewN | apply below_drew1) | exact HB.out))) : w.heap.size ≤ gb1)); have n3_ := Aside0.mk ((by rw [hg]; exact (below_size (by repeat (first | (with_reducible first | exact HB.out | apply below_alloc | apply pw_below_drewN | apply below_drew1) | exact HB.out))) : w.heap.size ≤ gb1)); clear HB; have HB := n0_; have BK1 := n1_; have GW1 := n2_; have GE1 := n3_; clear n0_ n1_ n2_ n3_; clear hb hbox hg) | ((with_reducible refine gate_dst (N := 2) rfl ?_); refine box_event ?hg (N := 2) ?hd (cs := #[.int .u32 0, .int .i64 0, .slice none 0 0, .slice none 0 0, .int .u32 0, .int .u32 0, .int .i64 0, .int .u32 0]) (t := 38) ?hr ?_; (case hd => rfl); (case hg => rfl); (case hr => first | (go_simp; done) | (go_simp; rfl)); intro gb2 hg w7 hbox hb; have n0_ := Aside0.mk (blk_below (g := gb1) (o := .cells #[.int .u32 a0_0, .int .i64 a0_1, .slice A0_2 l0_2.length c0_2, .slice A0_3 l0_3.length c0_3, .int .u32 a0_4, .int .u32 a0_5, .int .i64 a0_6, .int .u32 a0_7] 38 (0, 0)) (by (with_reducible repeat (first | refine blk_drewN ?_ _ | refine blk_drew ?_ | refine blk_alloc ?_ _)); exact BK1.out) hb); have n1_ := Aside0.mk (below_step (by repeat (first | (with_reducible first | exact HB.out | apply below_alloc | apply pw_below_drewN | apply below_drew1 | refine below_set ?_ GE1.out) | exact HB.out)) hb); have n2_ := Aside0.mk (hbox); have n3_ := Aside0.mk ((by rw [hg]; exact (below_size (by repeat (first | (with_reducible first | exact HB.out | apply below_alloc | apply pw_below_drewN | apply below_drew1 | refine below_set ?_ GE1.out) | exact HB.out))) : w.heap.size ≤ gb2)); have n4_ := Aside0.mk ((by rw [hg]; exact (below_size (by repeat (first | (with_reducible first | exact HB.out | apply below_alloc | apply pw_below_drewN | apply below_drew1 | refine below_set ?_ GE1.out) | exact HB.out))) : w.heap.size ≤ gb2)); have n5_ := Aside0.mk ((by rw [hg]; exact Nat.ne_of_lt (blk_lt (g := gb1) (o := .cells #[.int .u32 a0_0, .int .i64 a0_1, .slice A0_2 l0_2.length c0_2, .slice A0_3 l0_3.length c0_3, .int .u32 a0_4, .int .u32 a0_5, .int .i64 a0_6, .int .u32 a0_7] 38 (0, 0)) (by (with_reducible repeat (first | refine blk_drewN ?_ _ | refine blk_drew ?_ | refine blk_alloc ?_ _)); exact BK1.out)) : gb1 ≠ gb2)); have n6_ := Aside0.mk ((by rw [hg]; exact Nat.ne_of_gt (blk_lt (g := gb1) (o := .cells #[.int .u32 a0_0, .int .i64 a0_1, .slice A0_2 l0_2.length c0_2, .slice A0_3 l0_3.length c0_3, .int .u32 a0_4, .int .u32 a0_5, .int .i64 a0_6, .int .u32 a0_7] 38 (0, 0)) (by (with_reducible repeat (first | refine blk_drewN ?_ _ | refine blk_drew ?_ | refine blk_alloc ?_ _)); exact BK1.out)) : gb2 ≠ gb1)); clear BK1; clear HB; have BK1 := n0_; have HB := n1_; have BK2 := n2_; have GW2 := n3_; have GE2 := n4_; have NB1_2 := n5_; have NB2_1 := n6_; clear n0_ n1_ n2_ n3_ n4_ n5_ n6_; clear hb hbox hg; have hnb8 := NB1_2.out; have hnc8 := NB2_1.out; have hcz9_0 : w7.cell? ⟨gb1, 0, none⟩ = some (.int .u32 a0_0) := (blk_cell BK1.out 0).trans rfl; have hcz9_1 : w7.cell? ⟨gb1, 1, none⟩ = some (.int .i64 a0_1) := (blk_cell BK1.out 1).trans rfl; have hcz9_2 : w7.cell? ⟨gb1, 2, none⟩ = some (.slice A0_2 l0_2.length c0_2) := (blk_cell BK1.out 2).trans rfl; have hcz9_3 : w7.cell? ⟨gb1, 3, none⟩ = some (.slice A0_3 l0_3.length c0_3) := (blk_cell BK1.out 3).trans rfl; have hcz9_4 : w7.cell? ⟨gb1, 4, none⟩ = some (.int .u32 a0_4) := (blk_cell BK1.out 4).trans rfl; have hcz9_5 : w7.cell? ⟨gb1, 5, none⟩ = some (.int .u32 a0_5) := (blk_cell BK1.out 5).trans rfl; have hcz9_6 : w7.cell? ⟨gb1, 6, none⟩ = some (.int .i64 a0_6) := (blk_cell BK1.out 6).trans rfl; have hcz9_7 : w7.cell? ⟨gb1, 7, none⟩ = some (.int .u32 a0_7) := (blk_cell BK1.out 7).trans rfl; have hfz9_0 := blk_frozen BK1.out 0; have hfz9_1 := blk_frozen BK1.out 1; have hfz9_2 := blk_frozen BK1.out 2; have hfz9_3 := blk_frozen BK1.out 3; have hfz9_4 := blk_frozen BK1.out 4; have hfz9_5 := blk_frozen BK1.out 5; have hfz9_6 := blk_frozen BK1.out 6; have hfz9_7 := blk_frozen BK1.out 7) | ((with_reducible refine gate_callee (f := 37) rfl ?_); refine goesL_ (some 4) rfl rfl Try.func37 (by kernel_rfl) rfl #[.agg #[.int .u32 a0_0, .int .i64 a0_1, .slice A0_2 l0_2.length c0_2, .slice A0_3 l0_3.length c0_3, .int .u32 a0_4, .int .u32 a0_5, .int .i64 a0_6, .int .u32 a0_7]] rfl (by (try simp only [List.map_toArray, List.map_cons, List.map_nil]); first | done | rfl | (simp only [List.length_drop, List.length_take]; rfl)) ?_; (with_reducible refine (q8z.calls a0_0 a0_1 _ _ l0_2 _ _ l0_3 a0_4 a0_5 a0_6 a0_7 t3 t4 t5 t8 t11 t12 t13 t14 _ ?side1 ?side2 ?side3 ?side4 A2.out).mono ?_); (case side1 => repeat (first | exact (Kd.C_below HR0_2.out HB.out) | (with_reducible refine Kd.C_alloc ?_ _) | (with_reducible refine Kd.C_drewN ?_ _) | (with_reducible refine Kd.C_drew ?_))); (case side2 => exact HC0_2.out); (case side3 => repeat (first | exact (Kd.C_below HR0_3.out HB.out) | (with_reducible refine Kd.C_alloc ?_ _) | (with_reducible refine Kd.C_drewN ?_ _) | (with_reducible refine Kd.C_drew ?_))); (case side4 => exact HC0_3.out); rintro e w10 ⟨v6, v9, rfl, ho0, ho1, hb⟩; refine ⟨_, rfl, ?_⟩; have n0_ := Aside0.mk (Kd.R_lower ho0 (below_size (by repeat (first | (with_reducible first | exact HB.out | apply below_alloc | apply pw_below_drewN | apply below_drew1 | refine below_set ?_ GE1.out | refine below_set ?_ GE2.out) | exact HB.out)))); have n1_ := Aside0.mk (Kd.R_lower ho1 (below_size (by repeat (first | (with_reducible first | exact HB.out | apply below_alloc | apply pw_below_drewN | apply below_drew1 | refine below_set ?_ GE1.out | refine below_set ?_ GE2.out) | exact HB.out)))); have n2_ := Aside0.mk (blk_below (g := gb1) (o := .cells #[.int .u32 a0_0, .int .i64 a0_1, .slice A0_2 l0_2.length c0_2, .slice A0_3 l0_3.length c0_3, .int .u32 a0_4, .int .u32 a0_5, .int .i64 a0_6, .int .u32 a0_7] 38 (0, 0)) (by (with_reducible repeat (first | refine blk_drewN ?_ _ | refine blk_drew ?_ | refine blk_alloc ?_ _)); exact BK1.out) hb); have n3_ := Aside0.mk (blk_below (g := gb2) (o := .cells #[.int .u32 0, .int .i64 0, .slice none 0 0, .slice none 0 0, .int .u32 0, .int .u32 0, .int .i64 0, .int .u32 0] 38 (0, 0)) (by (with_reducible repeat (first | refine blk_drewN ?_ _ | refine blk_drew ?_ | refine blk_alloc ?_ _)); exact BK2.out) hb); have n4_ := Aside0.mk (below_step (by repeat (first | (with_reducible first | exact HB.out | apply below_alloc | apply pw_below_drewN | apply below_drew1 | refine below_set ?_ GE1.out | refine below_set ?_ GE2.out) | exact HB.out)) hb); clear BK1; clear BK2; clear HB; have HO7 := n0_; have HO10 := n1_; have BK1 := n2_; have BK2 := n3_; have HB := n4_; clear n0_ n1_ n2_ n3_ n4_; (try clear hb); (try clear hb2); (try clear hk); (try clear hi); (try clear ho0); (try clear ho1); have hcz11_0 : w10.cell? ⟨gb1, 0, none⟩ = some (.int .u32 a0_0) := (blk_cell BK1.out 0).trans rfl; have hcz11_1 : w10.cell? ⟨gb1, 1, none⟩ = some (.int .i64 a0_1) := (blk_cell BK1.out 1).trans rfl; have hcz11_2 : w10.cell? ⟨gb1, 2, none⟩ = some (.slice A0_2 l0_2.length c0_2) := (blk_cell BK1.out 2).trans rfl; have hcz11_3 : w10.cell? ⟨gb1, 3, none⟩ = some (.slice A0_3 l0_3.length c0_3) := (blk_cell BK1.out 3).trans rfl; have hcz11_4 : w10.cell? ⟨gb1, 4, none⟩ = some (.int .u32 a0_4) := (blk_cell BK1.out 4).trans rfl; have hcz11_5 : w10.cell? ⟨gb1, 5, none⟩ = some (.int .u32 a0_5) := (blk_cell BK1.out 5).trans rfl; have hcz11_6 : w10.cell? ⟨gb1, 6, none⟩ = some (.int .i64 a0_6) := (blk_cell BK1.out 6).trans rfl; have hcz11_7 : w10.cell? ⟨gb1, 7, none⟩ = some (.int .u32 a0_7) := (blk_cell BK1.out 7).trans rfl; have hfz11_0 := blk_frozen BK1.out 0; have hfz11_1 := blk_frozen BK1.out 1; have hfz11_2 := blk_frozen BK1.out 2; have hfz11_3 := blk_frozen BK1.out 3; have hfz11_4 := blk_frozen BK1.out 4; have hfz11_5 := blk_frozen BK1.out 5; have hfz11_6 := blk_frozen BK1.out 6; have hfz11_7 := blk_frozen BK1.out 7; obtain ⟨Ao12, co12, eo12⟩ := Kd.R_slice HO7.out; subst eo12; obtain ⟨Ao13, co13, eo13⟩ := Kd.R_slice HO10.out; subst eo13) | ((with_reducible refine gate_callee (f := 32) rfl ?_); refine goesL_ (some 7) rfl rfl Try.func32 (by kernel_rfl) rfl #[.agg #[.int .u32 t3, .int .i64 t4]] rfl (by (try simp only [List.map_toArray, List.map_cons, List.map_nil]); first | done | rfl | (simp only [List.length_drop, List.length_take]; rfl)) ?_; (with_reducible refine (q1z.calls t3 t4 t15 t16 _ A3.out).mono ?_); rintro e w14 ⟨rfl, hb⟩; refine ⟨_, rfl, ?_⟩; have n0_ := Aside0.mk (Kd.R_below (by (with_reducible repeat (first | apply Kd.R_alloc | apply Kd.R_drewN | apply Kd.R_drew)); exact (Kd.R_mono (Kd.R_far (p := ⟨gb1, 7, none⟩) (Kd.R_far (p := ⟨gb1, 6, none⟩) (Kd.R_far (p := ⟨gb1, 5, none⟩) (Kd.R_far (p := ⟨gb1, 4, none⟩) (Kd.R_far (p := ⟨gb1, 3, none⟩) (Kd.R_far (p := ⟨gb1, 2, none⟩) (Kd.R_far (p := ⟨gb1, 1, none⟩) (Kd.R_far (p := ⟨gb1, 0, none⟩) (Kd.R_types HO7.out BK1.out (by decide)) (fun _ hk => hk.2) (.int .u32 t3)) (fun _ hk => hk.2) (.int .i64 t4)) (fun _ hk => hk.2) (.slice Ao12 t5.length co12)) (fun _ hk => hk.2) (.slice Ao13 t8.length co13)) (fun _ hk => hk.2) (.int .u32 t11)) (fun _ hk => hk.2) (.int .u32 t12)) (fun _ hk => hk.2) (.int .i64 t13)) (fun _ hk => hk.2) (.int .u32 t14)) (fun _ h_ => h_.1))) hb); have n1_ := Aside0.mk (Kd.R_below (by (with_reducible repeat (first | apply Kd.R_alloc | apply Kd.R_drewN | apply Kd.R_drew)); exact (Kd.R_mono (Kd.R_far (p := ⟨gb1, 7, none⟩) (Kd.R_far (p := ⟨gb1, 6, none⟩) (Kd.R_far (p := ⟨gb1, 5, none⟩) (Kd.R_far (p := ⟨gb1, 4, none⟩) (Kd.R_far (p := ⟨gb1, 3, none⟩) (Kd.R_far (p := ⟨gb1, 2, none⟩) (Kd.R_far (p := ⟨gb1, 1, none⟩) (Kd.R_far (p := ⟨gb1, 0, none⟩) (Kd.R_types HO10.out BK1.out (by decide)) (fun _ hk => hk.2) (.int .u32 t3)) (fun _ hk => hk.2) (.int .i64 t4)) (fun _ hk => hk.2) (.slice Ao12 t5.length co12)) (fun _ hk => hk.2) (.slice Ao13 t8.length co13)) (fun _ hk => hk.2) (.int .u32 t11)) (fun _ hk => hk.2) (.int .u32 t12)) (fun _ hk => hk.2) (.int .i64 t13)) (fun _ hk => hk.2) (.int .u32 t14)) (fun _ h_ => h_.1))) hb); have n2_ := Aside0.mk (blk_below (g := gb1) (o := .cells #[.int .u32 t3, .int .i64 t4, .slice Ao12 t5.length co12, .slice Ao13 t8.length co13, .int .u32 t11, .int .u32 t12, .int .i64 t13, .int .u32 t14] 38 (0, 0)) (by (with_reducible repeat (first | refine blk_drewN ?_ _ | refine blk_drew ?_ | refine blk_alloc ?_ _)); refine blk_put (cs := #[.int .u32 t3, .int .i64 t4, .slice Ao12 t5.length co12, .slice Ao13 t8.length co13, .int .u32 t11, .int .u32 t12, .int .i64 t13, .int .u32 a0_7]) ?_ 7 _ rfl; (with_reducible repeat (first | refine blk_drewN ?_ _ | refine blk_drew ?_ | refine blk_alloc ?_ _)); refine blk_put (cs := #[.int .u32 t3, .int .i64 t4, .slice Ao12 t5.length co12, .slice Ao13 t8.length co13, .int .u32 t11, .int .u32 t12, .int .i64 a0_6, .int .u32 a0_7]) ?_ 6 _ rfl; (with_reducible repeat (first | refine blk_drewN ?_ _ | refine blk_drew ?_ | refine blk_alloc ?_ _)); refine blk_put (cs := #[.int .u32 t3, .int .i64 t4, .slice Ao12 t5.length co12, .slice Ao13 t8.length co13, .int .u32 t11, .int .u32 a0_5, .int .i64 a0_6, .int .u32 a0_7]) ?_ 5 _ rfl; (with_reducible repeat (first | refine blk_drewN ?_ _ | refine blk_drew ?_ | refine blk_alloc ?_ _)); refine blk_put (cs := #[.int .u32 t3, .int .i64 t4, .slice Ao12 t5.length co12, .slice Ao13 t8.length co13, .int .u32 a0_4, .int .u32 a0_5, .int .i64 a0_6, .int .u32 a0_7]) ?_ 4 _ rfl; (with_reducible repeat (first | refine blk_drewN ?_ _ | refine blk_drew ?_ | refine blk_alloc ?_ _)); refine blk_put (cs := #[.int .u32 t3, .int .i64 t4, .slice Ao12 t5.length co12, .slice A0_3 l0_3.length c0_3, .int .u32 a0_4, .int .u32 a0_5, .int .i64 a0_6, .int .u32 a0_7]) ?_ 3 _ rfl; (with_reducible repeat (first | refine blk_drewN ?_ _ | refine blk_drew ?_ | refine blk_alloc ?_ _)); refine blk_put (cs := #[.int .u32 t3, .int .i64 t4, .slice A0_2 l0_2.length c0_2, .slice A0_3 l0_3.length c0_3, .int .u32 a0_4, .int .u32 a0_5, .int .i64 a0_6, .int .u32 a0_7]) ?_ 2 _ rfl; (with_reducible repeat (first | refine blk_drewN ?_ _ | refine blk_drew ?_ | refine blk_alloc ?_ _)); refine blk_put (cs := #[.int .u32 t3, .int .i64 a0_1, .slice A0_2 l0_2.length c0_2, .slice A0_3 l0_3.length c0_3, .int .u32 a0_4, .int .u32 a0_5, .int .i64 a0_6, .int .u32 a0_7]) ?_ 1 _ rfl; (with_reducible repeat (first | refine blk_drewN ?_ _ | refine blk_drew ?_ | refine blk_alloc ?_ _)); refine blk_put (cs := #[.int .u32 a0_0, .int .i64 a0_1, .slice A0_2 l0_2.length c0_2, .slice A0_3 l0_3.length c0_3, .int .u32 a0_4, .int .u32 a0_5, .int .i64 a0_6, .int .u32 a0_7]) ?_ 0 _ rfl; (with_reducible repeat (first | refine blk_drewN ?_ _ | refine blk_drew ?_ | refine blk_alloc ?_ _)); exact BK1.out) hb); have n3_ := Aside0.mk (blk_below (g := gb2) (o := .cells #[.int .u32 0, .int .i64 0, .slice none 0 0, .slice none 0 0, .int .u32 0, .int .u32 0, .int .i64 0, .int .u32 0] 38 (0, 0)) (by (with_reducible repeat (first | refine blk_drewN ?_ _ | refine blk_drew ?_ | refine blk_alloc ?_ _)); refine blk_far ?_ NB2_1.out _; (with_reducible repeat (first | refine blk_drewN ?_ _ | refine blk_drew ?_ | refine blk_alloc ?_ _)); refine blk_far ?_ NB2_1.out _; (with_reducible repeat (first | refine blk_drewN ?_ _ | refine blk_drew ?_ | refine blk_alloc ?_ _)); refine blk_far ?_ NB2_1.out _; (with_reducible repeat (first | refine blk_drewN ?_ _ | refine blk_drew ?_ | refine blk_alloc ?_ _)); refine blk_far ?_ NB2_1.out _; (with_reducible repeat (first | refine blk_drewN ?_ _ | refine blk_drew ?_ | refine blk_alloc ?_ _)); refine blk_far ?_ NB2_1.out _; (with_reducible repeat (first | refine blk_drewN ?_ _ | refine blk_drew ?_ | refine blk_alloc ?_ _)); refine blk_far ?_ NB2_1.out _; (with_reducible repeat (first | refine blk_drewN ?_ _ | refine blk_drew ?_ | refine blk_alloc ?_ _)); refine blk_far ?_ NB2_1.out _; (with_reducible repeat (first | refine blk_drewN ?_ _ | refine blk_drew ?_ | refine blk_alloc ?_ _)); refine blk_far ?_ NB2_1.out _; (with_reducible repeat (first | refine blk_drewN ?_ _ | refine blk_drew ?_ | refine blk_alloc ?_ _)); exact BK2.out) hb); have n4_ := Aside0.mk (below_step (by repeat (first | (with_reducible first | exact HB.out | apply below_alloc | apply pw_below_drewN | apply below_drew1 | refine below_set ?_ GE1.out | refine below_set ?_ GE2.out) | exact HB.out)) hb); clear HO7; clear HO10; clear BK1; clear BK2; clear HB; have HO7 := n0_; have HO10 := n1_; have BK1 := n2_; have BK2 := n3_; have HB := n4_; clear n0_ n1_ n2_ n3_ n4_; (try clear hb); (try clear hb2); (try clear hk); (try clear hi); have hcz15_0 : w14.cell? ⟨gb1, 0, none⟩ = some (.int .u32 t3) := (blk_cell BK1.out 0).trans rfl; have hcz15_1 : w14.cell? ⟨gb1, 1, none⟩ = some (.int .i64 t4) := (blk_cell BK1.out 1).trans rfl; have hcz15_2 : w14.cell? ⟨gb1, 2, none⟩ = some (.slice Ao12 t5.length co12) := (blk_cell BK1.out 2).trans rfl; have hcz15_3 : w14.cell? ⟨gb1, 3, none⟩ = some (.slice Ao13 t8.length co13) := (blk_cell BK1.out 3).trans rfl; have hcz15_4 : w14.cell? ⟨gb1, 4, none⟩ = some (.int .u32 t11) := (blk_cell BK1.out 4).trans rfl; have hcz15_5 : w14.cell? ⟨gb1, 5, none⟩ = some (.int .u32 t12) := (blk_cell BK1.out 5).trans rfl; have hcz15_6 : w14.cell? ⟨gb1, 6, none⟩ = some (.int .i64 t13) := (blk_cell BK1.out 6).trans rfl; have hcz15_7 : w14.cell? ⟨gb1, 7, none⟩ = some (.int .u32 t14) := (blk_cell BK1.out 7).trans rfl; have hfz15_0 := blk_frozen BK1.out 0; have hfz15_1 := blk_frozen BK1.out 1; have hfz15_2 := blk_frozen BK1.out 2; have hfz15_3 := blk_frozen BK1.out 3; have hfz15_4 := blk_frozen BK1.out 4; have hfz15_5 := blk_frozen BK1.out 5; have hfz15_6 := blk_frozen BK1.out 6; have hfz15_7 := blk_frozen BK1.out 7) | ((with_reducible refine gate_store (t := 35) (p := 8) rfl ?_); refine store_event (t := 35) (p := 8) (v := ?vo_w16) (w1 := ((w14.setCell ⟨gb1, 0, none⟩ (.int .u32 t15)).setCell ⟨gb1, 1, none⟩ (.int .i64 t16))) ?hg ?ho ?hn ?hr ?_; (case ho => rfl); (case hg => rfl); (case hn => rfl); (case hr => first | (go_simp; done) | (go_simp; rfl)); intro w16 hw; have n0_ : Aside0 (Kd.R (Kd.int .u32) 33 w16 w.heap.size (fun k_ => some k_ ≠ (.slice Ao13 t8.length co13 : Value).ownBlock) (.slice Ao12 t5.length co12) t5) := ⟨(by rw [hw]; exact (by (with_reducible repeat (first | apply Kd.R_alloc | apply Kd.R_drewN | apply Kd.R_drew)); exact Kd.R_mono (Kd.R_far (p := ⟨gb1, 1, none⟩) (Kd.R_far (p := ⟨gb1, 0, none⟩) (Kd.R_types HO7.out BK1.out (by decide)) (fun _ hk => hk.2) (.int .u32 t15)) (fun _ hk => hk.2) (.int .i64 t16)) (fun _ hk => hk.1)))⟩; have n1_ : Aside0 (Kd.R (Kd.int .u32) 33 w16 w.heap.size (fun k_ => some k_ ≠ (.slice Ao12 t5.length co12 : Value).ownBlock) (.slice Ao13 t8.length co13) t8) := ⟨(by rw [hw]; exact (by (with_reducible repeat (first | apply Kd.R_alloc | apply Kd.R_drewN | apply Kd.R_drew)); exact Kd.R_mono (Kd.R_far (p := ⟨gb1, 1, none⟩) (Kd.R_far (p := ⟨gb1, 0, none⟩) (Kd.R_types HO10.out BK1.out (by decide)) (fun _ hk => hk.2) (.int .u32 t15)) (fun _ hk => hk.2) (.int .i64 t16)) (fun _ hk => hk.1)))⟩; have n2_ : Aside0 (w16.heap[gb1]? = some (.cells #[.int .u32 t15, .int .i64 t16, .slice Ao12 t5.length co12, .slice Ao13 t8.length co13, .int .u32 t11, .int .u32 t12, .int .i64 t13, .int .u32 t14] 38 (0, 0))) := ⟨(by rw [hw]; exact (by (with_reducible repeat (first | refine blk_drewN ?_ _ | refine blk_drew ?_ | refine blk_alloc ?_ _)); refine blk_put (cs := #[.int .u32 t15, .int .i64 t4, .slice Ao12 t5.length co12, .slice Ao13 t8.length co13, .int .u32 t11, .int .u32 t12, .int .i64 t13, .int .u32 t14]) ?_ 1 _ rfl; (with_reducible repeat (first | refine blk_drewN ?_ _ | refine blk_drew ?_ | refine blk_alloc ?_ _)); refine blk_put (cs := #[.int .u32 t3, .int .i64 t4, .slice Ao12 t5.length co12, .slice Ao13 t8.length co13, .int .u32 t11, .int .u32 t12, .int .i64 t13, .int .u32 t14]) ?_ 0 _ rfl; (with_reducible repeat (first | refine blk_drewN ?_ _ | refine blk_drew ?_ | refine blk_alloc ?_ _)); exact BK1.out))⟩; have n3_ : Aside0 (w16.heap[gb2]? = some (.cells #[.int .u32 0, .int .i64 0, .slice none 0 0, .slice none 0 0, .int .u32 0, .int .u32 0, .int .i64 0, .int .u32 0] 38 (0, 0))) := ⟨(by rw [hw]; exact (by (with_reducible repeat (first | refine blk_drewN ?_ _ | refine blk_drew ?_ | refine blk_alloc ?_ _)); refine blk_far ?_ NB2_1.out _; (with_reducible repeat (first | refine blk_drewN ?_ _ | refine blk_drew ?_ | refine blk_alloc ?_ _)); refine blk_far ?_ NB2_1.out _; (with_reducible repeat (first | refine blk_drewN ?_ _ | refine blk_drew ?_ | refine blk_alloc ?_ _)); exact BK2.out))⟩; have n4_ : Aside0 (Below w.heap.size w w16) := ⟨(by rw [hw]; exact (by repeat (first | (with_reducible first | exact HB.out | apply below_alloc | apply pw_below_drewN | apply below_drew1 | refine below_set ?_ GE1.out | refine below_set ?_ GE2.out) | exact HB.out)))⟩; clear hw; clear HO7; clear HO10; clear BK1; clear BK2; clear HB; have HO7 := n0_; have HO10 := n1_; have BK1 := n2_; have BK2 := n3_; have HB := n4_; clear n0_ n1_ n2_ n3_ n4_; have hcz17_0 : w16.cell? ⟨gb1, 0, none⟩ = some (.int .u32 t15) := (blk_cell BK1.out 0).trans rfl; have hcz17_1 : w16.cell? ⟨gb1, 1, none⟩ = some (.int .i64 t16) := (blk_cell BK1.out 1).trans rfl; have hcz17_2 : w16.cell? ⟨gb1, 2, none⟩ = some (.slice Ao12 t5.length co12) := (blk_cell BK1.out 2).trans rfl; have hcz17_3 : w16.cell? ⟨gb1, 3, none⟩ = some (.slice Ao13 t8.length co13) := (blk_cell BK1.out 3).trans rfl; have hcz17_4 : w16.cell? ⟨gb1, 4, none⟩ = some (.int .u32 t11) := (blk_cell BK1.out 4).trans rfl; have hcz17_5 : w16.cell? ⟨gb1, 5, none⟩ = some (.int .u32 t12) := (blk_cell BK1.out 5).trans rfl; have hcz17_6 : w16.cell? ⟨gb1, 6, none⟩ = some (.int .i64 t13) := (blk_cell BK1.out 6).trans rfl; have hcz17_7 : w16.cell? ⟨gb1, 7, none⟩ = some (.int .u32 t14) := (blk_cell BK1.out 7).trans rfl; have hfz17_0 := blk_frozen BK1.out 0; have hfz17_1 := blk_frozen BK1.out 1; have hfz17_2 := blk_frozen BK1.out 2; have hfz17_3 := blk_frozen BK1.out 3; have hfz17_4 := blk_frozen BK1.out 4; have hfz17_5 := blk_frozen BK1.out 5; have hfz17_6 := blk_frozen BK1.out 6; have hfz17_7 := blk_frozen BK1.out 7) | ((with_reducible refine gate_callee (f := 59) rfl ?_); refine goesL_ (some 11) rfl rfl Try.func59 (by kernel_rfl) rfl #[.slice Ao13 t8.length co13] rfl (by (try simp only [List.map_toArray, List.map_cons, List.map_nil]); first | done | rfl | (simp only [List.length_drop, List.length_take]; rfl)) ?_; (with_reducible refine (Sort_u32.calls k (fun k_ => some k_ = (.slice Ao13 t8.length co13 : Value).ownBlock) (.slice Ao13 t8.length co13) t8 t17 w _ ?side1 ?side2 A4.out).mono ?_); (case side1 => repeat (first | (with_reducible first | exact HB.out | apply below_alloc | apply pw_below_drewN | apply below_drew1 | refine below_set ?_ GE1.out | refine below_set ?_ GE2.out) | exact HB.out)); (case side2 => exact Kd.R_tight rfl HO10.out); rintro e w18 ⟨rfl, hy0, hb, hkp⟩; refine ⟨_, rfl, ?_⟩; have n0_ := Aside0.mk (blk_kept (by (with_reducible repeat (first | refine blk_drewN ?_ _ | refine blk_drew ?_ | refine blk_alloc ?_ _)); exact BK1.out) hkp (fun hs_ => (fun e_ => (Kd.R_ne HO10.out BK1.out (by decide)) e_) hs_)); have n1_ := Aside0.mk (blk_kept (by (with_reducible repeat (first | refine blk_drewN ?_ _ | refine blk_drew ?_ | refine blk_alloc ?_ _)); exact BK2.out) hkp (fun hs_ => (fun e_ => (Kd.R_ne HO10.out BK2.out (by decide)) e_) hs_)); have n2_ := Aside0.mk (Kd.R_mono (ok' := fun k_ => some k_ ≠ (.slice Ao13 t8.length co13 : Value).ownBlock) (Kd.R_keptB (HO7.out) hkp (fun k_ hk_ hs_ => (hk_) hs_)) (fun k_ hk_ => hk_.1)); have n3_ := Aside0.mk (Kd.R_reok rfl hy0 (fun k_ e_ => HO10.out.1 k_ e_)); have n4_ := Aside0.mk (hb); clear BK1; clear BK2; clear HO7; clear HO10; clear HB; have BK1 := n0_; have BK2 := n1_; have HO7 := n2_; have HO10 := n3_; have HB := n4_; clear n0_ n1_ n2_ n3_ n4_; (try clear hb); (try clear hkp); (try clear hy0); have hcz19_0 : w18.cell? ⟨gb1, 0, none⟩ = some (.int .u32 t15) := (blk_cell BK1.out 0).trans rfl; have hcz19_1 : w18.cell? ⟨gb1, 1, none⟩ = some (.int .i64 t16) := (blk_cell BK1.out 1).trans rfl; have hcz19_2 : w18.cell? ⟨gb1, 2, none⟩ = some (.slice Ao12 t5.length co12) := (blk_cell BK1.out 2).trans rfl; have hcz19_3 : w18.cell? ⟨gb1, 3, none⟩ = some (.slice Ao13 t8.length co13) := (blk_cell BK1.out 3).trans rfl; have hcz19_4 : w18.cell? ⟨gb1, 4, none⟩ = some (.int .u32 t11) := (blk_cell BK1.out 4).trans rfl; have hcz19_5 : w18.cell? ⟨gb1, 5, none⟩ = some (.int .u32 t12) := (blk_cell BK1.out 5).trans rfl; have hcz19_6 : w18.cell? ⟨gb1, 6, none⟩ = some (.int .i64 t13) := (blk_cell BK1.out 6).trans rfl; have hcz19_7 : w18.cell? ⟨gb1, 7, none⟩ = some (.int .u32 t14) := (blk_cell BK1.out 7).trans rfl; have hfz19_0 := blk_frozen BK1.out 0; have hfz19_1 := blk_frozen BK1.out 1; have hfz19_2 := blk_frozen BK1.out 2; have hfz19_3 := blk_frozen BK1.out 3; have hfz19_4 := blk_frozen BK1.out 4; have hfz19_5 := blk_frozen BK1.out 5; have hfz19_6 := blk_frozen BK1.out 6; have hfz19_7 := blk_frozen BK1.out 7) | ((with_reducible refine gate_callee (f := 60) rfl ?_); refine goesL_ (some 14) rfl rfl Try.func60 (by kernel_rfl) rfl #[.slice Ao13 t8.length co13] rfl (by (try simp only [List.map_toArray, List.map_cons, List.map_nil]); first | done | rfl | (simp only [List.length_drop, List.length_take]; rfl)) ?_; (with_reducible refine (Compact_u32.calls (fun k_ => some k_ = (.slice Ao13 t8.length co13 : Value).ownBlock) (.slice Ao13 t8.length co13) t17 t18 w _ ?side1 ?side2 A5.out).mono ?_); (case side1 => repeat (first | (with_reducible first | exact HB.out | apply below_alloc | apply pw_below_drewN | apply below_drew1 | refine below_set ?_ GE1.out | refine below_set ?_ GE2.out) | exact HB.out)); (case side2 => exact Kd.R_tight rfl HO10.out); rintro e w20 ⟨v19, rfl, ho0, hb, hkp⟩; refine ⟨_, rfl, ?_⟩; have n0_ := Aside0.mk (blk_kept (by (with_reducible repeat (first | refine blk_drewN ?_ _ | refine blk_drew ?_ | refine blk_alloc ?_ _)); exact BK1.out) hkp (fun hs_ => (fun e_ => (Kd.R_ne HO10.out BK1.out (by decide)) e_) hs_)); have n1_ := Aside0.mk (blk_kept (by (with_reducible repeat (first | refine blk_drewN ?_ _ | refine blk_drew ?_ | refine blk_alloc ?_ _)); exact BK2.out) hkp (fun hs_ => (fun e_ => (Kd.R_ne HO10.out BK2.out (by decide)) e_) hs_)); have n2_ := Aside0.mk (Kd.R_mono (ok' := fun k_ => some k_ ≠ (v19 : Value).ownBlock) (Kd.R_keptB (HO7.out) hkp (fun k_ hk_ hs_ => (hk_) hs_)) (fun k_ hk_ => fun e_ => Or.elim (ho0.1 k_ e_.symm) (fun hs_ => hk_.2.1 hs_) (fun hn_ => Nat.not_le.2 hk_.2.2 hn_))); have n3_ := Aside0.mk (Kd.R_mono (ok' := fun k_ => some k_ ≠ (.slice Ao12 t5.length co12 : Value).ownBlock) ho0 (fun k_ hk_ => Or.elim hk_ (fun hs_ => fun e_ => (((HO7.out).1 k_ e_.symm)) hs_) (fun hn_ => (Kd.fresh' (Kd.R_lt (by (with_reducible repeat (first | apply Kd.R_alloc | apply Kd.R_drewN | apply Kd.R_drew)); exact HO7.out)) k_ hn_)))); have n4_ := Aside0.mk (hb); clear BK1; clear BK2; clear HO7; clear HB; clear HO10; have BK1 := n0_; have BK2 := n1_; have HO7 := n2_; have HO20 := n3_; have HB := n4_; clear n0_ n1_ n2_ n3_ n4_; (try clear hb); (try clear hkp); (try clear ho0); obtain ⟨Ao21, co21, eo21⟩ := Kd.R_slice HO20.out; subst eo21; have hcz22_0 : w20.cell? ⟨gb1, 0, none⟩ = some (.int .u32 t15) := (blk_cell BK1.out 0).trans rfl; have hcz22_1 : w20.cell? ⟨gb1, 1, none⟩ = some (.int .i64 t16) := (blk_cell BK1.out 1).trans rfl; have hcz22_2 : w20.cell? ⟨gb1, 2, none⟩ = some (.slice Ao12 t5.length co12) := (blk_cell BK1.out 2).trans rfl; have hcz22_3 : w20.cell? ⟨gb1, 3, none⟩ = some (.slice Ao13 t8.length co13) := (blk_cell BK1.out 3).trans rfl; have hcz22_4 : w20.cell? ⟨gb1, 4, none⟩ = some (.int .u32 t11) := (blk_cell BK1.out 4).trans rfl; have hcz22_5 : w20.cell? ⟨gb1, 5, none⟩ = some (.int .u32 t12) := (blk_cell BK1.out 5).trans rfl; have hcz22_6 : w20.cell? ⟨gb1, 6, none⟩ = some (.int .i64 t13) := (blk_cell BK1.out 6).trans rfl; have hcz22_7 : w20.cell? ⟨gb1, 7, none⟩ = some (.int .u32 t14) := (blk_cell BK1.out 7).trans rfl; have hfz22_0 := blk_frozen BK1.out 0; have hfz22_1 := blk_frozen BK1.out 1; have hfz22_2 := blk_frozen BK1.out 2; have hfz22_3 := blk_frozen BK1.out 3; have hfz22_4 := blk_frozen BK1.out 4; have hfz22_5 := blk_frozen BK1.out 5; have hfz22_6 := blk_frozen BK1.out 6; have hfz22_7 := blk_frozen BK1.out 7; have hcz23_0 : w20.cell? ⟨gb2, 0, none⟩ = some (.int .u32 0) := (blk_cell BK2.out 0).trans rfl; have hcz23_1 : w20.cell? ⟨gb2, 1, none⟩ = some (.int .i64 0) := (blk_cell BK2.out 1).trans rfl; have hcz23_2 : w20.cell? ⟨gb2, 2, none⟩ = some (.slice none 0 0) := (blk_cell BK2.out 2).trans rfl; have hcz23_3 : w20.cell? ⟨gb2, 3, none⟩ = some (.slice none 0 0) := (blk_cell BK2.out 3).trans rfl; have hcz23_4 : w20.cell? ⟨gb2, 4, none⟩ = some (.int .u32 0) := (blk_cell BK2.out 4).trans rfl; have hcz23_5 : w20.cell? ⟨gb2, 5, none⟩ = some (.int .u32 0) := (blk_cell BK2.out 5).trans rfl; have hcz23_6 : w20.cell? ⟨gb2, 6, none⟩ = some (.int .i64 0) := (blk_cell BK2.out 6).trans rfl; have hcz23_7 : w20.cell? ⟨gb2, 7, none⟩ = some (.int .u32 0) := (blk_cell BK2.out 7).trans rfl; have hfz23_0 := blk_frozen BK2.out 0; have hfz23_1 := blk_frozen BK2.out 1; have hfz23_2 := blk_frozen BK2.out 2; have hfz23_3 := blk_frozen BK2.out 3; have hfz23_4 := blk_frozen BK2.out 4; have hfz23_5 := blk_frozen BK2.out 5; have hfz23_6 := blk_frozen BK2.out 6; have hfz23_7 := blk_frozen BK2.out 7))
 refine bodyPost_ret (results_cell_row rfl _ _ gb2 38 #[.int .u32 t15, .int .i64 t16, .slice Ao12 t5.length co12, .slice Ao21 t18.length co21, .int .u32 t11, .int .u32 t12, .int .i64 t13, .int .u32 t14] (0, 0) _ rfl (by (with_reducible repeat (first | refine blk_drewN ?_ _ | refine blk_drew ?_ | refine blk_alloc ?_ _)); refine blk_put (cs := #[.int .u32 t15, .int .i64 t16, .slice Ao12 t5.length co12, .slice Ao21 t18.length co21, .int .u32 t11, .int .u32 t12, .int .i64 t13, .int .u32 0]) ?_ 7 _ rfl; (with_reducible repeat (first | refine blk_drewN ?_ _ | refine blk_drew ?_ | refine blk_alloc ?_ _)); refine blk_put (cs := #[.int .u32 t15, .int .i64 t16, .slice Ao12 t5.length co12, .slice Ao21 t18.length co21, .int .u32 t11, .int .u32 t12, .int .i64 0, .int .u32 0]) ?_ 6 _ rfl; (with_reducible repeat (first | refine blk_drewN ?_ _ | refine blk_drew ?_ | refine blk_alloc ?_ _)); refine blk_put (cs := #[.int .u32 t15, .int .i64 t16, .slice Ao12 t5.length co12, .slice Ao21 t18.length co21, .int .u32 t11, .int .u32 0, .int .i64 0, .int .u32 0]) ?_ 5 _ rfl; (with_reducible repeat (first | refine blk_drewN ?_ _ | refine blk_drew ?_ | refine blk_alloc ?_ _)); refine blk_put (cs := #[.int .u32 t15, .int .i64 t16, .slice Ao12 t5.length co12, .slice Ao21 t18.length co21, .int .u32 0, .int .u32 0, .int .i64 0, .int .u32 0]) ?_ 4 _ rfl; (with_reducible repeat (first | refine blk_drewN ?_ _ | refine blk_drew ?_ | refine blk_alloc ?_ _)); refine blk_put (cs := #[.int .u32 t15, .int .i64 t16, .slice Ao12 t5.length co12, .slice none 0 0, .int .u32 0, .int .u32 0, .int .i64 0, .int .u32 0]) ?_ 3 _ rfl; (with_reducible repeat (first | refine blk_drewN ?_ _ | refine blk_drew ?_ | refine blk_alloc ?_ _)); refine blk_put (cs := #[.int .u32 t15, .int .i64 t16, .slice none 0 0, .slice none 0 0, .int .u32 0, .int .u32 0, .int .i64 0, .int .u32 0]) ?_ 2 _ rfl; (with_reducible repeat (first | refine blk_drewN ?_ _ | refine blk_drew ?_ | refine blk_alloc ?_ _)); refine blk_put (cs := #[.int .u32 t15, .int .i64 0, .slice none 0 0, .slice none 0 0, .int .u32 0, .int .u32 0, .int .i64 0, .int .u32 0]) ?_ 1 _ rfl; (with_reducible repeat (first | refine blk_drewN ?_ _ | refine blk_drew ?_ | refine blk_alloc ?_ _)); refine blk_put (cs := #[.int .u32 0, .int .i64 0, .slice none 0 0, .slice none 0 0, .int .u32 0, .int .u32 0, .int .i64 0, .int .u32 0]) ?_ 0 _ rfl; (with_reducible repeat (first | refine blk_drewN ?_ _ | refine blk_drew ?_ | refine blk_alloc ?_ _)); refine blk_far ?_ NB2_1.out _; (with_reducible repeat (first | refine blk_drewN ?_ _ | refine blk_drew ?_ | refine blk_alloc ?_ _)); exact BK2.out) Try.underlying38 rfl (by kernel_rfl)) rfl ?_
 exact ⟨_, _, by first | rfl | (simp [errW_none, errW_some] <;> rfl) | (simp [*, errW_none, errW_some] <;> rfl), by (with_reducible repeat (first | apply Kd.R_alloc | apply Kd.R_drewN | apply Kd.R_drew)); exact Kd.R_mono (Kd.R_far (p := ⟨gb2, 7, none⟩) (Kd.R_far (p := ⟨gb2, 6, none⟩) (Kd.R_far (p := ⟨gb2, 5, none⟩) (Kd.R_far (p := ⟨gb2, 4, none⟩) (Kd.R_far (p := ⟨gb2, 3, none⟩) (Kd.R_far (p := ⟨gb2, 2, none⟩) (Kd.R_far (p := ⟨gb2, 1, none⟩) (Kd.R_far (p := ⟨gb2, 0, none⟩) (Kd.R_far (p := ⟨gb1, 3, none⟩) (Kd.R_types (Kd.R_types HO7.out BK1.out (by decide)) BK2.out (by decide)) (fun _ hk => hk.1.2) (.slice Ao21 t18.length co21)) (fun _ hk => hk.2) (.int .u32 t15)) (fun _ hk => hk.2) (.int .i64 t16)) (fun _ hk => hk.2) (.slice Ao12 t5.length co12)) (fun _ hk => hk.2) (.slice Ao21 t18.length co21)) (fun _ hk => hk.2) (.int .u32 t11)) (fun _ hk => hk.2) (.int .u32 t12)) (fun _ hk => hk.2) (.int .i64 t13)) (fun _ hk => hk.2) (.int .u32 t14)) (fun _ hk => hk.1.1), by (with_reducible repeat (first | apply Kd.R_alloc | apply Kd.R_drewN | apply Kd.R_drew)); exact Kd.R_mono (Kd.R_far (p := ⟨gb2, 7, none⟩) (Kd.R_far (p := ⟨gb2, 6, none⟩) (Kd.R_far (p := ⟨gb2, 5, none⟩) (Kd.R_far (p := ⟨gb2, 4, none⟩) (Kd.R_far (p := ⟨gb2, 3, none⟩) (Kd.R_far (p := ⟨gb2, 2, none⟩) (Kd.R_far (p := ⟨gb2, 1, none⟩) (Kd.R_far (p := ⟨gb2, 0, none⟩) (Kd.R_far (p := ⟨gb1, 3, none⟩) (Kd.R_types (Kd.R_types HO20.out BK1.out (by decide)) BK2.out (by decide)) (fun _ hk => hk.1.2) (.slice Ao21 t18.length co21)) (fun _ hk => hk.2) (.int .u32 t15)) (fun _ hk => hk.2) (.int .i64 t16)) (fun _ hk => hk.2) (.slice Ao12 t5.length co12)) (fun _ hk => hk.2) (.slice Ao21 t18.length co21)) (fun _ hk => hk.2) (.int .u32 t11)) (fun _ hk => hk.2) (.int .u32 t12)) (fun _ hk => hk.2) (.int .i64 t13)) (fun _ hk => hk.2) (.int .u32 t14)) (fun _ hk => hk.1.1), by repeat (first | (with_reducible first | exact HB.out | apply below_alloc | apply pw_below_drewN | apply below_drew1 | refine below_set ?_ GE1.out | refine below_set ?_ GE2.out) | exact HB.out)⟩

end Go.Proofs.Ythekledcoeeheaa.P

namespace Go.Proofs.Ythekledcoeeheaa.P
open Go.RowKit Go.Proofs.YthekledcoeeheaaW.PrintWords Go.Proofs.YthekledcoeeheaaW.PrintLast Go.Proofs.YthekledcoeeheaaW.PrintMore
attribute [local go_sem] max2_int min2_int max_two min_two max_three min_three max_four min_four
set_option linter.unusedVariables false
set_option linter.unusedSimpArgs false

/-! ### route_first: function 64 -/
def q10z.l0 : Nat → List Int → Int → Int → Option (Int)
 | 0, _, _, _ => none
 | k + 1, x5, x6, x7 => if x7 < x6 then (if 0 ≤ x7 then (if x7 < (x5.length : Int) then (if (rd x5 x7) = 0 then (q10z.l0 k x5 x6 (wrap64 (x7 + 1))) else (some (rd x5 x7))) else (none)) else (none)) else (some 0)
def q10z.f (k : Nat) (l0 : List Int) : Option (Int) := q10z.l0 k l0 (l0.length : Int) 0
theorem q10z.mono_l : ∀ k, (∀ y0 y1 y2, LeO (q10z.l0 k y0 y1 y2) (q10z.l0 (k + 1) y0 y1 y2))
 | 0 => fun _ _ _ r h => by simp [q10z.l0] at h
 | k + 1 => by
  have ih0 := q10z.mono_l k
  ·
   intro y0 y1 y2
   unfold q10z.l0
   repeat' first
   | (with_reducible exact ih0 _ _ _)
   | (with_reducible exact LeO.refl _)
   | (with_reducible exact LeO.none _)
   | (with_reducible refine LeO.ite ?_ ?_)
   | (with_reducible refine LeO.bind ?_ (fun _ => ?_))
   | exact ih0 _ _ _
   | exact LeO.none _
   | refine LeO.ite ?_ ?_
   | refine LeO.bind ?_ (fun _ => ?_)
theorem q10z.mono : ∀ a0 k, LeO (q10z.f k a0) (q10z.f (k + 1) a0) := by
 intro a0 k
 have ih0 := q10z.mono_l k
 unfold q10z.f
 repeat' first
   | (with_reducible exact ih0 _ _ _)
   | (with_reducible exact LeO.refl _)
   | (with_reducible exact LeO.none _)
   | (with_reducible refine LeO.ite ?_ ?_)
   | (with_reducible refine LeO.bind ?_ (fun _ => ?_))
   | exact ih0 _ _ _
   | exact LeO.none _
   | refine LeO.ite ?_ ?_
   | refine LeO.bind ?_ (fun _ => ?_)
set_option maxHeartbeats 8000000 in
set_option maxRecDepth 100000 in
theorem q10z.calls (k : Nat) (A0 : Option Addr) (c0 : Nat) (l0 : List Int) (r : Int) (w : World) (hr0 : Kd.C (Kd.int .i64) w A0 l0.length l0) (hc0 : l0.length ≤ c0) (h : q10z.f k l0 = some r) :
  Calls Try.prog 64 #[.slice A0 l0.length c0] w fun e w' => e = .returned (.int .i64 r) ∧ Drawn0 w w' := by
 have HR0 := Aside0.mk hr0
 have HC0 := Aside0.mk hc0
 clear hr0 hc0
 have H : (q10z.l0 k l0 (l0.length : Int) 0) = some r := h
 clear h
 have H' := Aside0.mk H
 clear H
 go_enter Try.func64, Try.ntmps64
 go_wp2
 go_loopg [7] k (fun kq v7 w' => ∃ (x7_1 : Int), v7 = .int .i64 x7_1 ∧ Aside0 (q10z.l0 kq l0 (l0.length : Int) x7_1 = some r) ∧ Aside0 (kq ≤ k) ∧ Drawn0 w w')
 case atStart => exact ⟨(0), (by first | rfl | (simp; done) | (simp [*]; done)), H', ⟨Nat.le_refl _⟩, by repeat (first | exact Drawn0.refl _ | apply Drawn0.step)⟩
 case round =>
  clear H'
  obtain ⟨x7_1, rfl, HA, HK1, ⟨m1, rfl⟩⟩ := hrel
  cases gk with
  | zero => exact absurd HA.out (by simp [q10z.l0])
  | succ k1 =>
   have H := HA.out
   clear HA
   simp only [q10z.l0] at H
   by_cases c2 : x7_1 < (l0.length : Int)
   ·
    rw [if_pos c2] at H
    have c2b0 : decide (x7_1 < (l0.length : Int)) = true := decide_eq_true c2
    clear c2
    by_cases c3 : 0 ≤ x7_1
    ·
     rw [if_pos c3] at H
     have c3b0 : decide (0 ≤ x7_1) = true := decide_eq_true c3
     clear c3
     by_cases c4 : x7_1 < (l0.length : Int)
     ·
      rw [if_pos c4] at H
      have c4b0 : decide (x7_1 < (l0.length : Int)) = true := decide_eq_true c4
      clear c4
      by_cases c5 : (rd l0 x7_1) = 0
      ·
       rw [if_pos c5] at H
       have c5b0 : ((rd l0 x7_1) == 0) = true := beq_iff_eq.mpr c5
       have c5b1 : ((rd l0 x7_1) != 0) = false := bne_eq_false_iff_eq.mpr c5
       clear c5
       have H' := Aside0.mk H
       clear H
       have p1 : 0 ≤ (x7_1 : Int) := of_decide_eq_true (by first | (with_reducible assumption) | assumption)
       have q1 : x7_1 < (l0.length : Int) := of_decide_eq_true (by first | (with_reducible assumption) | assumption)
       obtain ⟨ad1, e1, hx1_0⟩ := Kd.at_int HR0.out x7_1 p1 q1
       cases e1
       replace p1 := eq_true p1
       replace q1 := eq_true q1
       go_wp2
       go_roundg k1
       case measure => have := HK1.out; omega
       case rel => exact ⟨(wrap64 (x7_1 + 1)), (by first | rfl | (simp; done) | (simp [*]; done)), H', ⟨by have := HK1.out; omega⟩, by repeat (first | exact Drawn0.refl _ | apply Drawn0.step)⟩
      ·
       rw [if_neg c5] at H
       have c5b0 : ((rd l0 x7_1) == 0) = false := beq_eq_false_iff_ne.mpr c5
       have c5b1 : ((rd l0 x7_1) != 0) = true := bne_iff_ne.mpr c5
       obtain rfl := Option.some.inj H
       have p1 : 0 ≤ (x7_1 : Int) := of_decide_eq_true (by first | (with_reducible assumption) | assumption)
       have q1 : x7_1 < (l0.length : Int) := of_decide_eq_true (by first | (with_reducible assumption) | assumption)
       obtain ⟨ad1, e1, hx1_0⟩ := Kd.at_int HR0.out x7_1 p1 q1
       cases e1
       replace p1 := eq_true p1
       replace q1 := eq_true q1
       go_wp2
       go_ret
       exact ⟨by first | rfl | (simp; done) | (simp [*]; done), by repeat (first | exact Drawn0.refl _ | apply Drawn0.step)⟩
     ·
      rw [if_neg c4] at H
      exact absurd H (by simp)
    ·
     rw [if_neg c3] at H
     exact absurd H (by simp)
   ·
    rw [if_neg c2] at H
    have c2b0 : decide (x7_1 < (l0.length : Int)) = false := decide_eq_false c2
    clear c2
    obtain rfl := Option.some.inj H
    go_wp2
    go_ret
    exact ⟨by first | rfl | (simp; done) | (simp [*]; done), by repeat (first | exact Drawn0.refl _ | apply Drawn0.step)⟩

end Go.Proofs.Ythekledcoeeheaa.P

namespace Go.Proofs.Ythekledcoeeheaa.P
open Go.RowKit Go.Proofs.YthekledcoeeheaaW.PrintWords Go.Proofs.YthekledcoeeheaaW.PrintLast Go.Proofs.YthekledcoeeheaaW.PrintMore
attribute [local go_sem] max2_int min2_int max_two min_two max_three min_three max_four min_four
set_option linter.unusedVariables false
set_option linter.unusedSimpArgs false

/-! ### cmp_Compare_uint32: function 65 -/
def q11z.f (a0 : Int) (a1 : Int) : Option (Int) := (q5z.f a0).bind fun t1 => ((q5z.f a1).bind fun t2 => (if t1 = true then (if t2 = true then (some 0) else (some (-1))) else (if t2 = true then (some 1) else (if a0 < a1 then (some (-1)) else (if a0 > a1 then (some 1) else (some 0))))))
set_option maxHeartbeats 8000000 in
set_option maxRecDepth 100000 in
theorem q11z.calls (a0 : Int) (a1 : Int) (r : Int) (w : World) (h : q11z.f a0 a1 = some r) :
  Calls Try.prog 65 #[.int .u32 a0, .int .u32 a1] w fun e w' => e = .returned (.int .i64 r) ∧ Drawn0 w w' := by
 have H : ((q5z.f a0).bind fun t1 => ((q5z.f a1).bind fun t2 => (if t1 = true then (if t2 = true then (some 0) else (some (-1))) else (if t2 = true then (some 1) else (if a0 < a1 then (some (-1)) else (if a0 > a1 then (some 1) else (some 0))))))) = some r := h
 clear h
 replace H := Option.bind_eq_some_iff.mp H
 obtain ⟨t1, A30, H⟩ := H
 replace H : ((q5z.f a1).bind fun t2 => (if t1 = true then (if t2 = true then (some 0) else (some (-1))) else (if t2 = true then (some 1) else (if a0 < a1 then (some (-1)) else (if a0 > a1 then (some 1) else (some 0)))))) = some r := H
 have A3 := Aside0.mk A30
 clear A30
 replace H := Option.bind_eq_some_iff.mp H
 obtain ⟨t2, A40, H⟩ := H
 replace H : (if t1 = true then (if t2 = true then (some 0) else (some (-1))) else (if t2 = true then (some 1) else (if a0 < a1 then (some (-1)) else (if a0 > a1 then (some 1) else (some 0))))) = some r := H
 have A4 := Aside0.mk A40
 clear A40
 by_cases c5 : t1 = true
 ·
  subst c5
  have H1 : (if t2 = true then (some 0) else (some (-1))) = some r := by rw [if_pos rfl] at H; exact H
  clear H
  have H := H1
  clear H1
  by_cases c6 : t2 = true
  ·
   subst c6
   have H1 : (some 0) = some r := by rw [if_pos rfl] at H; exact H
   clear H
   have H := H1
   clear H1
   obtain rfl := Option.some.inj H
   go_enter Try.func65, Try.ntmps65
   go_wp2_with (first | ((with_reducible refine gate_callee (f := 77) rfl ?_); refine goesL_ (some 8) rfl rfl Try.func77 (by kernel_rfl) rfl #[.int .u32 a0] rfl (by (try simp only [List.map_toArray, List.map_cons, List.map_nil]); first | done | rfl | (simp only [List.length_drop, List.length_take]; rfl)) ?_; (with_reducible refine (q5z.calls a0 true _ A3.out).mono ?_); rintro e w' ⟨rfl, ⟨nd, rfl⟩⟩; refine ⟨_, rfl, ?_⟩) | ((with_reducible refine gate_callee (f := 77) rfl ?_); refine goesL_ (some 10) rfl rfl Try.func77 (by kernel_rfl) rfl #[.int .u32 a1] rfl (by (try simp only [List.map_toArray, List.map_cons, List.map_nil]); first | done | rfl | (simp only [List.length_drop, List.length_take]; rfl)) ?_; (with_reducible refine (q5z.calls a1 true _ A4.out).mono ?_); rintro e w' ⟨rfl, ⟨nd, rfl⟩⟩; refine ⟨_, rfl, ?_⟩))
   go_ret
   exact ⟨by first | rfl | (simp; done) | (simp [*]; done), by repeat (first | exact Drawn0.refl _ | apply Drawn0.step)⟩
  ·
   replace c6 := Bool.eq_false_iff.mpr c6
   subst c6
   have H1 : (some (-1)) = some r := by rw [if_neg (show ¬ (false = true) by decide)] at H; exact H
   clear H
   have H := H1
   clear H1
   obtain rfl := Option.some.inj H
   go_enter Try.func65, Try.ntmps65
   go_wp2_with (first | ((with_reducible refine gate_callee (f := 77) rfl ?_); refine goesL_ (some 8) rfl rfl Try.func77 (by kernel_rfl) rfl #[.int .u32 a0] rfl (by (try simp only [List.map_toArray, List.map_cons, List.map_nil]); first | done | rfl | (simp only [List.length_drop, List.length_take]; rfl)) ?_; (with_reducible refine (q5z.calls a0 true _ A3.out).mono ?_); rintro e w' ⟨rfl, ⟨nd, rfl⟩⟩; refine ⟨_, rfl, ?_⟩) | ((with_reducible refine gate_callee (f := 77) rfl ?_); refine goesL_ (some 10) rfl rfl Try.func77 (by kernel_rfl) rfl #[.int .u32 a1] rfl (by (try simp only [List.map_toArray, List.map_cons, List.map_nil]); first | done | rfl | (simp only [List.length_drop, List.length_take]; rfl)) ?_; (with_reducible refine (q5z.calls a1 false _ A4.out).mono ?_); rintro e w' ⟨rfl, ⟨nd, rfl⟩⟩; refine ⟨_, rfl, ?_⟩))
   go_ret
   exact ⟨by first | rfl | (simp; done) | (simp [*]; done), by repeat (first | exact Drawn0.refl _ | apply Drawn0.step)⟩
 ·
  replace c5 := Bool.eq_false_iff.mpr c5
  subst c5
  have H1 : (if t2 = true then (some 1) else (if a0 < a1 then (some (-1)) else (if a0 > a1 then (some 1) else (some 0)))) = some r := by rw [if_neg (show ¬ (false = true) by decide)] at H; exact H
  clear H
  have H := H1
  clear H1
  by_cases c7 : t2 = true
  ·
   subst c7
   have H1 : (some 1) = some r := by rw [if_pos rfl] at H; exact H
   clear H
   have H := H1
   clear H1
   obtain rfl := Option.some.inj H
   go_enter Try.func65, Try.ntmps65
   go_wp2_with (first | ((with_reducible refine gate_callee (f := 77) rfl ?_); refine goesL_ (some 8) rfl rfl Try.func77 (by kernel_rfl) rfl #[.int .u32 a0] rfl (by (try simp only [List.map_toArray, List.map_cons, List.map_nil]); first | done | rfl | (simp only [List.length_drop, List.length_take]; rfl)) ?_; (with_reducible refine (q5z.calls a0 false _ A3.out).mono ?_); rintro e w' ⟨rfl, ⟨nd, rfl⟩⟩; refine ⟨_, rfl, ?_⟩) | ((with_reducible refine gate_callee (f := 77) rfl ?_); refine goesL_ (some 10) rfl rfl Try.func77 (by kernel_rfl) rfl #[.int .u32 a1] rfl (by (try simp only [List.map_toArray, List.map_cons, List.map_nil]); first | done | rfl | (simp only [List.length_drop, List.length_take]; rfl)) ?_; (with_reducible refine (q5z.calls a1 true _ A4.out).mono ?_); rintro e w' ⟨rfl, ⟨nd, rfl⟩⟩; refine ⟨_, rfl, ?_⟩))
   go_ret
   exact ⟨by first | rfl | (simp; done) | (simp [*]; done), by repeat (first | exact Drawn0.refl _ | apply Drawn0.step)⟩
  ·
   replace c7 := Bool.eq_false_iff.mpr c7
   subst c7
   have H1 : (if a0 < a1 then (some (-1)) else (if a0 > a1 then (some 1) else (some 0))) = some r := by rw [if_neg (show ¬ (false = true) by decide)] at H; exact H
   clear H
   have H := H1
   clear H1
   by_cases c8 : a0 < a1
   ·
    rw [if_pos c8] at H
    have c8b0 : decide (a0 < a1) = true := decide_eq_true c8
    clear c8
    obtain rfl := Option.some.inj H
    go_enter Try.func65, Try.ntmps65
    go_wp2_with (first | ((with_reducible refine gate_callee (f := 77) rfl ?_); refine goesL_ (some 8) rfl rfl Try.func77 (by kernel_rfl) rfl #[.int .u32 a0] rfl (by (try simp only [List.map_toArray, List.map_cons, List.map_nil]); first | done | rfl | (simp only [List.length_drop, List.length_take]; rfl)) ?_; (with_reducible refine (q5z.calls a0 false _ A3.out).mono ?_); rintro e w' ⟨rfl, ⟨nd, rfl⟩⟩; refine ⟨_, rfl, ?_⟩) | ((with_reducible refine gate_callee (f := 77) rfl ?_); refine goesL_ (some 10) rfl rfl Try.func77 (by kernel_rfl) rfl #[.int .u32 a1] rfl (by (try simp only [List.map_toArray, List.map_cons, List.map_nil]); first | done | rfl | (simp only [List.length_drop, List.length_take]; rfl)) ?_; (with_reducible refine (q5z.calls a1 false _ A4.out).mono ?_); rintro e w' ⟨rfl, ⟨nd, rfl⟩⟩; refine ⟨_, rfl, ?_⟩))
    go_ret
    exact ⟨by first | rfl | (simp; done) | (simp [*]; done), by repeat (first | exact Drawn0.refl _ | apply Drawn0.step)⟩
   ·
    rw [if_neg c8] at H
    have c8b0 : decide (a0 < a1) = false := decide_eq_false c8
    clear c8
    by_cases c9 : a0 > a1
    ·
     rw [if_pos c9] at H
     have c9b0 : decide (a1 < a0) = true := decide_eq_true c9
     clear c9
     obtain rfl := Option.some.inj H
     go_enter Try.func65, Try.ntmps65
     go_wp2_with (first | ((with_reducible refine gate_callee (f := 77) rfl ?_); refine goesL_ (some 8) rfl rfl Try.func77 (by kernel_rfl) rfl #[.int .u32 a0] rfl (by (try simp only [List.map_toArray, List.map_cons, List.map_nil]); first | done | rfl | (simp only [List.length_drop, List.length_take]; rfl)) ?_; (with_reducible refine (q5z.calls a0 false _ A3.out).mono ?_); rintro e w' ⟨rfl, ⟨nd, rfl⟩⟩; refine ⟨_, rfl, ?_⟩) | ((with_reducible refine gate_callee (f := 77) rfl ?_); refine goesL_ (some 10) rfl rfl Try.func77 (by kernel_rfl) rfl #[.int .u32 a1] rfl (by (try simp only [List.map_toArray, List.map_cons, List.map_nil]); first | done | rfl | (simp only [List.length_drop, List.length_take]; rfl)) ?_; (with_reducible refine (q5z.calls a1 false _ A4.out).mono ?_); rintro e w' ⟨rfl, ⟨nd, rfl⟩⟩; refine ⟨_, rfl, ?_⟩))
     go_ret
     exact ⟨by first | rfl | (simp; done) | (simp [*]; done), by repeat (first | exact Drawn0.refl _ | apply Drawn0.step)⟩
    ·
     rw [if_neg c9] at H
     have c9b0 : decide (a1 < a0) = false := decide_eq_false c9
     clear c9
     obtain rfl := Option.some.inj H
     go_enter Try.func65, Try.ntmps65
     go_wp2_with (first | ((with_reducible refine gate_callee (f := 77) rfl ?_); refine goesL_ (some 8) rfl rfl Try.func77 (by kernel_rfl) rfl #[.int .u32 a0] rfl (by (try simp only [List.map_toArray, List.map_cons, List.map_nil]); first | done | rfl | (simp only [List.length_drop, List.length_take]; rfl)) ?_; (with_reducible refine (q5z.calls a0 false _ A3.out).mono ?_); rintro e w' ⟨rfl, ⟨nd, rfl⟩⟩; refine ⟨_, rfl, ?_⟩) | ((with_reducible refine gate_callee (f := 77) rfl ?_); refine goesL_ (some 10) rfl rfl Try.func77 (by kernel_rfl) rfl #[.int .u32 a1] rfl (by (try simp only [List.map_toArray, List.map_cons, List.map_nil]); first | done | rfl | (simp only [List.length_drop, List.length_take]; rfl)) ?_; (with_reducible refine (q5z.calls a1 false _ A4.out).mono ?_); rintro e w' ⟨rfl, ⟨nd, rfl⟩⟩; refine ⟨_, rfl, ?_⟩))
     go_ret
     exact ⟨by first | rfl | (simp; done) | (simp [*]; done), by repeat (first | exact Drawn0.refl _ | apply Drawn0.step)⟩

end Go.Proofs.Ythekledcoeeheaa.P

namespace Go.Proofs.Ythekledcoeeheaa.P
open Go.RowKit Go.Proofs.YthekledcoeeheaaW.PrintWords Go.Proofs.YthekledcoeeheaaW.PrintLast Go.Proofs.YthekledcoeeheaaW.PrintMore
attribute [local go_sem] max2_int min2_int max_two min_two max_three min_three max_four min_four
set_option linter.unusedVariables false
set_option linter.unusedSimpArgs false

/-! ### cmp_isNaN_int: function 78 -/
def q12z.f (a0 : Int) : Option (Bool) := some (a0 != a0)
set_option maxHeartbeats 8000000 in
set_option maxRecDepth 100000 in
theorem q12z.calls (a0 : Int) (r : Bool) (w : World) (h : q12z.f a0 = some r) :
  Calls Try.prog 78 #[.int .i64 a0] w fun e w' => e = .returned (.bool r) ∧ Drawn0 w w' := by
 have H : (some (a0 != a0)) = some r := h
 clear h
 obtain rfl := Option.some.inj H
 go_enter Try.func78, Try.ntmps78
 go_wp2
 go_ret
 exact ⟨by first | rfl | (simp; done) | (simp [*]; done), by repeat (first | exact Drawn0.refl _ | apply Drawn0.step)⟩

end Go.Proofs.Ythekledcoeeheaa.P

namespace Go.Proofs.Ythekledcoeeheaa.P
open Go.RowKit Go.Proofs.YthekledcoeeheaaW.PrintWords Go.Proofs.YthekledcoeeheaaW.PrintLast Go.Proofs.YthekledcoeeheaaW.PrintMore
attribute [local go_sem] max2_int min2_int max_two min_two max_three min_three max_four min_four
set_option linter.unusedVariables false
set_option linter.unusedSimpArgs false

/-! ### cmp_Compare_int: function 66 -/
def q13z.f (a0 : Int) (a1 : Int) : Option (Int) := (q12z.f a0).bind fun t1 => ((q12z.f a1).bind fun t2 => (if t1 = true then (if t2 = true then (some 0) else (some (-1))) else (if t2 = true then (some 1) else (if a0 < a1 then (some (-1)) else (if a0 > a1 then (some 1) else (some 0))))))
set_option maxHeartbeats 8000000 in
set_option maxRecDepth 100000 in
theorem q13z.calls (a0 : Int) (a1 : Int) (r : Int) (w : World) (h : q13z.f a0 a1 = some r) :
  Calls Try.prog 66 #[.int .i64 a0, .int .i64 a1] w fun e w' => e = .returned (.int .i64 r) ∧ Drawn0 w w' := by
 have H : ((q12z.f a0).bind fun t1 => ((q12z.f a1).bind fun t2 => (if t1 = true then (if t2 = true then (some 0) else (some (-1))) else (if t2 = true then (some 1) else (if a0 < a1 then (some (-1)) else (if a0 > a1 then (some 1) else (some 0))))))) = some r := h
 clear h
 replace H := Option.bind_eq_some_iff.mp H
 obtain ⟨t1, A30, H⟩ := H
 replace H : ((q12z.f a1).bind fun t2 => (if t1 = true then (if t2 = true then (some 0) else (some (-1))) else (if t2 = true then (some 1) else (if a0 < a1 then (some (-1)) else (if a0 > a1 then (some 1) else (some 0)))))) = some r := H
 have A3 := Aside0.mk A30
 clear A30
 replace H := Option.bind_eq_some_iff.mp H
 obtain ⟨t2, A40, H⟩ := H
 replace H : (if t1 = true then (if t2 = true then (some 0) else (some (-1))) else (if t2 = true then (some 1) else (if a0 < a1 then (some (-1)) else (if a0 > a1 then (some 1) else (some 0))))) = some r := H
 have A4 := Aside0.mk A40
 clear A40
 by_cases c5 : t1 = true
 ·
  subst c5
  have H1 : (if t2 = true then (some 0) else (some (-1))) = some r := by rw [if_pos rfl] at H; exact H
  clear H
  have H := H1
  clear H1
  by_cases c6 : t2 = true
  ·
   subst c6
   have H1 : (some 0) = some r := by rw [if_pos rfl] at H; exact H
   clear H
   have H := H1
   clear H1
   obtain rfl := Option.some.inj H
   go_enter Try.func66, Try.ntmps66
   go_wp2_with (first | ((with_reducible refine gate_callee (f := 78) rfl ?_); refine goesL_ (some 8) rfl rfl Try.func78 (by kernel_rfl) rfl #[.int .i64 a0] rfl (by (try simp only [List.map_toArray, List.map_cons, List.map_nil]); first | done | rfl | (simp only [List.length_drop, List.length_take]; rfl)) ?_; (with_reducible refine (q12z.calls a0 true _ A3.out).mono ?_); rintro e w' ⟨rfl, ⟨nd, rfl⟩⟩; refine ⟨_, rfl, ?_⟩) | ((with_reducible refine gate_callee (f := 78) rfl ?_); refine goesL_ (some 10) rfl rfl Try.func78 (by kernel_rfl) rfl #[.int .i64 a1] rfl (by (try simp only [List.map_toArray, List.map_cons, List.map_nil]); first | done | rfl | (simp only [List.length_drop, List.length_take]; rfl)) ?_; (with_reducible refine (q12z.calls a1 true _ A4.out).mono ?_); rintro e w' ⟨rfl, ⟨nd, rfl⟩⟩; refine ⟨_, rfl, ?_⟩))
   go_ret
   exact ⟨by first | rfl | (simp; done) | (simp [*]; done), by repeat (first | exact Drawn0.refl _ | apply Drawn0.step)⟩
  ·
   replace c6 := Bool.eq_false_iff.mpr c6
   subst c6
   have H1 : (some (-1)) = some r := by rw [if_neg (show ¬ (false = true) by decide)] at H; exact H
   clear H
   have H := H1
   clear H1
   obtain rfl := Option.some.inj H
   go_enter Try.func66, Try.ntmps66
   go_wp2_with (first | ((with_reducible refine gate_callee (f := 78) rfl ?_); refine goesL_ (some 8) rfl rfl Try.func78 (by kernel_rfl) rfl #[.int .i64 a0] rfl (by (try simp only [List.map_toArray, List.map_cons, List.map_nil]); first | done | rfl | (simp only [List.length_drop, List.length_take]; rfl)) ?_; (with_reducible refine (q12z.calls a0 true _ A3.out).mono ?_); rintro e w' ⟨rfl, ⟨nd, rfl⟩⟩; refine ⟨_, rfl, ?_⟩) | ((with_reducible refine gate_callee (f := 78) rfl ?_); refine goesL_ (some 10) rfl rfl Try.func78 (by kernel_rfl) rfl #[.int .i64 a1] rfl (by (try simp only [List.map_toArray, List.map_cons, List.map_nil]); first | done | rfl | (simp only [List.length_drop, List.length_take]; rfl)) ?_; (with_reducible refine (q12z.calls a1 false _ A4.out).mono ?_); rintro e w' ⟨rfl, ⟨nd, rfl⟩⟩; refine ⟨_, rfl, ?_⟩))
   go_ret
   exact ⟨by first | rfl | (simp; done) | (simp [*]; done), by repeat (first | exact Drawn0.refl _ | apply Drawn0.step)⟩
 ·
  replace c5 := Bool.eq_false_iff.mpr c5
  subst c5
  have H1 : (if t2 = true then (some 1) else (if a0 < a1 then (some (-1)) else (if a0 > a1 then (some 1) else (some 0)))) = some r := by rw [if_neg (show ¬ (false = true) by decide)] at H; exact H
  clear H
  have H := H1
  clear H1
  by_cases c7 : t2 = true
  ·
   subst c7
   have H1 : (some 1) = some r := by rw [if_pos rfl] at H; exact H
   clear H
   have H := H1
   clear H1
   obtain rfl := Option.some.inj H
   go_enter Try.func66, Try.ntmps66
   go_wp2_with (first | ((with_reducible refine gate_callee (f := 78) rfl ?_); refine goesL_ (some 8) rfl rfl Try.func78 (by kernel_rfl) rfl #[.int .i64 a0] rfl (by (try simp only [List.map_toArray, List.map_cons, List.map_nil]); first | done | rfl | (simp only [List.length_drop, List.length_take]; rfl)) ?_; (with_reducible refine (q12z.calls a0 false _ A3.out).mono ?_); rintro e w' ⟨rfl, ⟨nd, rfl⟩⟩; refine ⟨_, rfl, ?_⟩) | ((with_reducible refine gate_callee (f := 78) rfl ?_); refine goesL_ (some 10) rfl rfl Try.func78 (by kernel_rfl) rfl #[.int .i64 a1] rfl (by (try simp only [List.map_toArray, List.map_cons, List.map_nil]); first | done | rfl | (simp only [List.length_drop, List.length_take]; rfl)) ?_; (with_reducible refine (q12z.calls a1 true _ A4.out).mono ?_); rintro e w' ⟨rfl, ⟨nd, rfl⟩⟩; refine ⟨_, rfl, ?_⟩))
   go_ret
   exact ⟨by first | rfl | (simp; done) | (simp [*]; done), by repeat (first | exact Drawn0.refl _ | apply Drawn0.step)⟩
  ·
   replace c7 := Bool.eq_false_iff.mpr c7
   subst c7
   have H1 : (if a0 < a1 then (some (-1)) else (if a0 > a1 then (some 1) else (some 0))) = some r := by rw [if_neg (show ¬ (false = true) by decide)] at H; exact H
   clear H
   have H := H1
   clear H1
   by_cases c8 : a0 < a1
   ·
    rw [if_pos c8] at H
    have c8b0 : decide (a0 < a1) = true := decide_eq_true c8
    clear c8
    obtain rfl := Option.some.inj H
    go_enter Try.func66, Try.ntmps66
    go_wp2_with (first | ((with_reducible refine gate_callee (f := 78) rfl ?_); refine goesL_ (some 8) rfl rfl Try.func78 (by kernel_rfl) rfl #[.int .i64 a0] rfl (by (try simp only [List.map_toArray, List.map_cons, List.map_nil]); first | done | rfl | (simp only [List.length_drop, List.length_take]; rfl)) ?_; (with_reducible refine (q12z.calls a0 false _ A3.out).mono ?_); rintro e w' ⟨rfl, ⟨nd, rfl⟩⟩; refine ⟨_, rfl, ?_⟩) | ((with_reducible refine gate_callee (f := 78) rfl ?_); refine goesL_ (some 10) rfl rfl Try.func78 (by kernel_rfl) rfl #[.int .i64 a1] rfl (by (try simp only [List.map_toArray, List.map_cons, List.map_nil]); first | done | rfl | (simp only [List.length_drop, List.length_take]; rfl)) ?_; (with_reducible refine (q12z.calls a1 false _ A4.out).mono ?_); rintro e w' ⟨rfl, ⟨nd, rfl⟩⟩; refine ⟨_, rfl, ?_⟩))
    go_ret
    exact ⟨by first | rfl | (simp; done) | (simp [*]; done), by repeat (first | exact Drawn0.refl _ | apply Drawn0.step)⟩
   ·
    rw [if_neg c8] at H
    have c8b0 : decide (a0 < a1) = false := decide_eq_false c8
    clear c8
    by_cases c9 : a0 > a1
    ·
     rw [if_pos c9] at H
     have c9b0 : decide (a1 < a0) = true := decide_eq_true c9
     clear c9
     obtain rfl := Option.some.inj H
     go_enter Try.func66, Try.ntmps66
     go_wp2_with (first | ((with_reducible refine gate_callee (f := 78) rfl ?_); refine goesL_ (some 8) rfl rfl Try.func78 (by kernel_rfl) rfl #[.int .i64 a0] rfl (by (try simp only [List.map_toArray, List.map_cons, List.map_nil]); first | done | rfl | (simp only [List.length_drop, List.length_take]; rfl)) ?_; (with_reducible refine (q12z.calls a0 false _ A3.out).mono ?_); rintro e w' ⟨rfl, ⟨nd, rfl⟩⟩; refine ⟨_, rfl, ?_⟩) | ((with_reducible refine gate_callee (f := 78) rfl ?_); refine goesL_ (some 10) rfl rfl Try.func78 (by kernel_rfl) rfl #[.int .i64 a1] rfl (by (try simp only [List.map_toArray, List.map_cons, List.map_nil]); first | done | rfl | (simp only [List.length_drop, List.length_take]; rfl)) ?_; (with_reducible refine (q12z.calls a1 false _ A4.out).mono ?_); rintro e w' ⟨rfl, ⟨nd, rfl⟩⟩; refine ⟨_, rfl, ?_⟩))
     go_ret
     exact ⟨by first | rfl | (simp; done) | (simp [*]; done), by repeat (first | exact Drawn0.refl _ | apply Drawn0.step)⟩
    ·
     rw [if_neg c9] at H
     have c9b0 : decide (a1 < a0) = false := decide_eq_false c9
     clear c9
     obtain rfl := Option.some.inj H
     go_enter Try.func66, Try.ntmps66
     go_wp2_with (first | ((with_reducible refine gate_callee (f := 78) rfl ?_); refine goesL_ (some 8) rfl rfl Try.func78 (by kernel_rfl) rfl #[.int .i64 a0] rfl (by (try simp only [List.map_toArray, List.map_cons, List.map_nil]); first | done | rfl | (simp only [List.length_drop, List.length_take]; rfl)) ?_; (with_reducible refine (q12z.calls a0 false _ A3.out).mono ?_); rintro e w' ⟨rfl, ⟨nd, rfl⟩⟩; refine ⟨_, rfl, ?_⟩) | ((with_reducible refine gate_callee (f := 78) rfl ?_); refine goesL_ (some 10) rfl rfl Try.func78 (by kernel_rfl) rfl #[.int .i64 a1] rfl (by (try simp only [List.map_toArray, List.map_cons, List.map_nil]); first | done | rfl | (simp only [List.length_drop, List.length_take]; rfl)) ?_; (with_reducible refine (q12z.calls a1 false _ A4.out).mono ?_); rintro e w' ⟨rfl, ⟨nd, rfl⟩⟩; refine ⟨_, rfl, ?_⟩))
     go_ret
     exact ⟨by first | rfl | (simp; done) | (simp [*]; done), by repeat (first | exact Drawn0.refl _ | apply Drawn0.step)⟩

end Go.Proofs.Ythekledcoeeheaa.P

namespace Go.Proofs.Ythekledcoeeheaa.P
open Go.RowKit Go.Proofs.YthekledcoeeheaaW.PrintWords Go.Proofs.YthekledcoeeheaaW.PrintLast Go.Proofs.YthekledcoeeheaaW.PrintMore
attribute [local go_sem] max2_int min2_int max_two min_two max_three min_three max_four min_four
set_option linter.unusedVariables false
set_option linter.unusedSimpArgs false

/-! ### slices_Compare_uint32_uint32: function 67 -/
def q14z.l0 : Nat → List Int → List Int → List Int → Int → Int → Option (Int)
 | 0, _, _, _, _, _ => none
 | k + 1, x0, x1, x9, x10, x11 => if x11 < x10 then (if 0 ≤ x11 then (if x11 < (x9.length : Int) then (if x11 ≥ (x1.length : Int) then (some 1) else (if x11 < (x1.length : Int) then ((q11z.f (rd x9 x11) (rd x1 x11)).bind fun t3 => (if t3 = 0 then (q14z.l0 k x0 x1 x9 x10 (wrap64 (x11 + 1))) else (some t3))) else (none))) else (none)) else (none)) else (if (x0.length : Int) < (x1.length : Int) then (some (-1)) else (some 0))
def q14z.f (k : Nat) (l0 : List Int) (l1 : List Int) : Option (Int) := q14z.l0 k l0 l1 l0 (l0.length : Int) 0
theorem q14z.mono_l : ∀ k, (∀ y0 y1 y2 y3 y4, LeO (q14z.l0 k y0 y1 y2 y3 y4) (q14z.l0 (k + 1) y0 y1 y2 y3 y4))
 | 0 => fun _ _ _ _ _ r h => by simp [q14z.l0] at h
 | k + 1 => by
  have ih0 := q14z.mono_l k
  ·
   intro y0 y1 y2 y3 y4
   unfold q14z.l0
   repeat' first
   | (with_reducible exact ih0 _ _ _ _ _)
   | (with_reducible exact LeO.refl _)
   | (with_reducible exact LeO.none _)
   | (with_reducible refine LeO.ite ?_ ?_)
   | (with_reducible refine LeO.bind ?_ (fun _ => ?_))
   | exact ih0 _ _ _ _ _
   | exact LeO.none _
   | refine LeO.ite ?_ ?_
   | refine LeO.bind ?_ (fun _ => ?_)
theorem q14z.mono : ∀ a0 a1 k, LeO (q14z.f k a0 a1) (q14z.f (k + 1) a0 a1) := by
 intro a0 a1 k
 have ih0 := q14z.mono_l k
 unfold q14z.f
 repeat' first
   | (with_reducible exact ih0 _ _ _ _ _)
   | (with_reducible exact LeO.refl _)
   | (with_reducible exact LeO.none _)
   | (with_reducible refine LeO.ite ?_ ?_)
   | (with_reducible refine LeO.bind ?_ (fun _ => ?_))
   | exact ih0 _ _ _ _ _
   | exact LeO.none _
   | refine LeO.ite ?_ ?_
   | refine LeO.bind ?_ (fun _ => ?_)
set_option maxHeartbeats 8000000 in
set_option maxRecDepth 100000 in
theorem q14z.calls (k : Nat) (A0 : Option Addr) (c0 : Nat) (l0 : List Int) (A1 : Option Addr) (c1 : Nat) (l1 : List Int) (r : Int) (w : World) (hr0 : Kd.C (Kd.int .u32) w A0 l0.length l0) (hc0 : l0.length ≤ c0) (hr1 : Kd.C (Kd.int .u32) w A1 l1.length l1) (hc1 : l1.length ≤ c1) (h : q14z.f k l0 l1 = some r) :
  Calls Try.prog 67 #[.slice A0 l0.length c0, .slice A1 l1.length c1] w fun e w' => e = .returned (.int .i64 r) ∧ Drawn0 w w' := by
 have HR0 := Aside0.mk hr0
 have HC0 := Aside0.mk hc0
 clear hr0 hc0
 have HR1 := Aside0.mk hr1
 have HC1 := Aside0.mk hc1
 clear hr1 hc1
 have H : (q14z.l0 k l0 l1 l0 (l0.length : Int) 0) = some r := h
 clear h
 have H' := Aside0.mk H
 clear H
 go_enter Try.func67, Try.ntmps67
 go_wp2
 go_loopg [11] k (fun kq v11 w' => ∃ (x11_1 : Int), v11 = .int .i64 x11_1 ∧ Aside0 (q14z.l0 kq l0 l1 l0 (l0.length : Int) x11_1 = some r) ∧ Aside0 (kq ≤ k) ∧ Drawn0 w w')
 case atStart => exact ⟨(0), (by first | rfl | (simp; done) | (simp [*]; done)), H', ⟨Nat.le_refl _⟩, by repeat (first | exact Drawn0.refl _ | apply Drawn0.step)⟩
 case round =>
  clear H'
  try clear c1
  try clear p2
  obtain ⟨x11_1, rfl, HA, HK1, ⟨m1, rfl⟩⟩ := hrel
  cases gk with
  | zero => exact absurd HA.out (by simp [q14z.l0])
  | succ k1 =>
   have H := HA.out
   clear HA
   simp only [q14z.l0] at H
   by_cases c3 : x11_1 < (l0.length : Int)
   ·
    rw [if_pos c3] at H
    have c3b0 : decide (x11_1 < (l0.length : Int)) = true := decide_eq_true c3
    clear c3
    by_cases c4 : 0 ≤ x11_1
    ·
     rw [if_pos c4] at H
     have c4b0 : decide (0 ≤ x11_1) = true := decide_eq_true c4
     clear c4
     by_cases c5 : x11_1 < (l0.length : Int)
     ·
      rw [if_pos c5] at H
      have c5b0 : decide (x11_1 < (l0.length : Int)) = true := decide_eq_true c5
      clear c5
      by_cases c6 : x11_1 ≥ (l1.length : Int)
      ·
       rw [if_pos c6] at H
       have c6b0 : decide ((l1.length : Int) ≤ x11_1) = true := decide_eq_true c6
       clear c6
       obtain rfl := Option.some.inj H
       have p1 : 0 ≤ (x11_1 : Int) := of_decide_eq_true (by first | (with_reducible assumption) | assumption)
       have q1 : x11_1 < (l0.length : Int) := of_decide_eq_true (by first | (with_reducible assumption) | assumption)
       obtain ⟨ad1, e1, hx1_0⟩ := Kd.at_int HR0.out x11_1 p1 q1
       cases e1
       replace p1 := eq_true p1
       replace q1 := eq_true q1
       go_wp2
       go_ret
       exact ⟨by first | rfl | (simp; done) | (simp [*]; done), by repeat (first | exact Drawn0.refl _ | apply Drawn0.step)⟩
      ·
       rw [if_neg c6] at H
       have c6b0 : decide ((l1.length : Int) ≤ x11_1) = false := decide_eq_false c6
       clear c6
       by_cases c7 : x11_1 < (l1.length : Int)
       ·
        rw [if_pos c7] at H
        have c7b0 : decide (x11_1 < (l1.length : Int)) = true := decide_eq_true c7
        clear c7
        replace H := Option.bind_eq_some_iff.mp H
        obtain ⟨t3, A80, H⟩ := H
        replace H : (if t3 = 0 then (q14z.l0 k1 l0 l1 l0 (l0.length : Int) (wrap64 (x11_1 + 1))) else (some t3)) = some r := H
        have A8 := Aside0.mk A80
        clear A80
        by_cases c9 : t3 = 0
        ·
         rw [if_pos c9] at H
         have c9b0 : (t3 == 0) = true := beq_iff_eq.mpr c9
         have c9b1 : (t3 != 0) = false := bne_eq_false_iff_eq.mpr c9
         clear c9
         have H' := Aside0.mk H
         clear H
         have p1 : 0 ≤ (x11_1 : Int) := of_decide_eq_true (by first | (with_reducible assumption) | assumption)
         have q1 : x11_1 < (l0.length : Int) := of_decide_eq_true (by first | (with_reducible assumption) | assumption)
         obtain ⟨ad1, e1, hx1_0⟩ := Kd.at_int HR0.out x11_1 p1 q1
         cases e1
         replace p1 := eq_true p1
         replace q1 := eq_true q1
         have p2 : 0 ≤ (x11_1 : Int) := of_decide_eq_true (by first | (with_reducible assumption) | assumption)
         have q2 : x11_1 < (l1.length : Int) := of_decide_eq_true (by first | (with_reducible assumption) | assumption)
         obtain ⟨ad2, e2, hx2_0⟩ := Kd.at_int HR1.out x11_1 p2 q2
         cases e2
         replace p2 := eq_true p2
         replace q2 := eq_true q2
         go_wp2_with (first | ((with_reducible refine gate_callee (f := 65) rfl ?_); refine goesL_ (some 26) rfl rfl Try.func65 (by kernel_rfl) rfl #[.int .u32 (rd l0 x11_1), .int .u32 (rd l1 x11_1)] rfl (by (try simp only [List.map_toArray, List.map_cons, List.map_nil]); first | done | rfl | (simp only [List.length_drop, List.length_take]; rfl)) ?_; (with_reducible refine (q11z.calls (rd l0 x11_1) (rd l1 x11_1) t3 _ A8.out).mono ?_); rintro e w' ⟨rfl, ⟨nd, rfl⟩⟩; refine ⟨_, rfl, ?_⟩))
         go_roundg k1
         case measure => have := HK1.out; omega
         case rel => exact ⟨(wrap64 (x11_1 + 1)), (by first | rfl | (simp; done) | (simp [*]; done)), H', ⟨by have := HK1.out; omega⟩, by repeat (first | exact Drawn0.refl _ | apply Drawn0.step)⟩
        ·
         rw [if_neg c9] at H
         have c9b0 : (t3 == 0) = false := beq_eq_false_iff_ne.mpr c9
         have c9b1 : (t3 != 0) = true := bne_iff_ne.mpr c9
         obtain rfl := Option.some.inj H
         have p1 : 0 ≤ (x11_1 : Int) := of_decide_eq_true (by first | (with_reducible assumption) | assumption)
         have q1 : x11_1 < (l0.length : Int) := of_decide_eq_true (by first | (with_reducible assumption) | assumption)
         obtain ⟨ad1, e1, hx1_0⟩ := Kd.at_int HR0.out x11_1 p1 q1
         cases e1
         replace p1 := eq_true p1
         replace q1 := eq_true q1
         have p2 : 0 ≤ (x11_1 : Int) := of_decide_eq_true (by first | (with_reducible assumption) | assumption)
         have q2 : x11_1 < (l1.length : Int) := of_decide_eq_true (by first | (with_reducible assumption) | assumption)
         obtain ⟨ad2, e2, hx2_0⟩ := Kd.at_int HR1.out x11_1 p2 q2
         cases e2
         replace p2 := eq_true p2
         replace q2 := eq_true q2
         go_wp2_with (first | ((with_reducible refine gate_callee (f := 65) rfl ?_); refine goesL_ (some 26) rfl rfl Try.func65 (by kernel_rfl) rfl #[.int .u32 (rd l0 x11_1), .int .u32 (rd l1 x11_1)] rfl (by (try simp only [List.map_toArray, List.map_cons, List.map_nil]); first | done | rfl | (simp only [List.length_drop, List.length_take]; rfl)) ?_; (with_reducible refine (q11z.calls (rd l0 x11_1) (rd l1 x11_1) t3 _ A8.out).mono ?_); rintro e w' ⟨rfl, ⟨nd, rfl⟩⟩; refine ⟨_, rfl, ?_⟩))
         go_ret
         exact ⟨by first | rfl | (simp; done) | (simp [*]; done), by repeat (first | exact Drawn0.refl _ | apply Drawn0.step)⟩
       ·
        rw [if_neg c7] at H
        exact absurd H (by simp)
     ·
      rw [if_neg c5] at H
      exact absurd H (by simp)
    ·
     rw [if_neg c4] at H
     exact absurd H (by simp)
   ·
    rw [if_neg c3] at H
    have c3b0 : decide (x11_1 < (l0.length : Int)) = false := decide_eq_false c3
    clear c3
    by_cases c10 : (l0.length : Int) < (l1.length : Int)
    ·
     rw [if_pos c10] at H
     have c10b0 : decide ((l0.length : Int) < (l1.length : Int)) = true := decide_eq_true c10
     have c10b1 : decide (l0.length < l1.length) = true := decide_eq_true (Int.ofNat_lt.mp c10)
     clear c10
     obtain rfl := Option.some.inj H
     go_wp2
     go_ret
     exact ⟨by first | rfl | (simp; done) | (simp [*]; done), by repeat (first | exact Drawn0.refl _ | apply Drawn0.step)⟩
    ·
     rw [if_neg c10] at H
     have c10b0 : decide ((l0.length : Int) < (l1.length : Int)) = false := decide_eq_false c10
     have c10b1 : decide (l0.length < l1.length) = false := decide_eq_false (fun h => c10 (Int.ofNat_lt.mpr h))
     clear c10
     obtain rfl := Option.some.inj H
     go_wp2
     go_ret
     exact ⟨by first | rfl | (simp; done) | (simp [*]; done), by repeat (first | exact Drawn0.refl _ | apply Drawn0.step)⟩

end Go.Proofs.Ythekledcoeeheaa.P

namespace Go.Proofs.Ythekledcoeeheaa.P
open Go.RowKit Go.Proofs.YthekledcoeeheaaW.PrintWords Go.Proofs.YthekledcoeeheaaW.PrintLast Go.Proofs.YthekledcoeeheaaW.PrintMore
attribute [local go_sem] max2_int min2_int max_two min_two max_three min_three max_four min_four
set_option linter.unusedVariables false
set_option linter.unusedSimpArgs false

/-! ### route_Cmp: function 40 -/
def q15z.f (k : Nat) (a0_0 : Int) (a0_1 : Int) (l0_2 : List Int) (l0_3 : List Int) (a0_4 : Int) (a0_5 : Int) (a0_6 : Int) (a0_7 : Int) (a1_0 : Int) (a1_1 : Int) (l1_2 : List Int) (l1_3 : List Int) (a1_4 : Int) (a1_5 : Int) (a1_6 : Int) (a1_7 : Int) : Option (Int) := (q11z.f a0_0 a1_0).bind fun t3 => ((q13z.f a0_1 a1_1).bind fun t4 => ((q14z.f k l0_2 l1_2).bind fun t5 => ((q14z.f k l0_3 l1_3).bind fun t6 => ((q11z.f a0_4 a1_4).bind fun t7 => ((q11z.f a0_5 a1_5).bind fun t8 => ((q13z.f a0_6 a1_6).bind fun t9 => ((q11z.f a0_7 a1_7).bind fun t10 => ((q10z.f k (([t3, t4, t5, t6, t7, t8, t9, t10] : List Int))).bind fun t14 => (some t14)))))))))
theorem q15z.mono : ∀ a0 a1 a2 a3 a4 a5 a6 a7 a8 a9 a10 a11 a12 a13 a14 a15 k, LeO (q15z.f k a0 a1 a2 a3 a4 a5 a6 a7 a8 a9 a10 a11 a12 a13 a14 a15) (q15z.f (k + 1) a0 a1 a2 a3 a4 a5 a6 a7 a8 a9 a10 a11 a12 a13 a14 a15) := by
 intro a0 a1 a2 a3 a4 a5 a6 a7 a8 a9 a10 a11 a12 a13 a14 a15 k
 unfold q15z.f
 repeat' first
   | (with_reducible exact q10z.mono _ _)
   | (with_reducible exact q14z.mono _ _ _)
   | (with_reducible exact LeO.refl _)
   | (with_reducible exact LeO.none _)
   | (with_reducible refine LeO.ite ?_ ?_)
   | (with_reducible refine LeO.bind ?_ (fun _ => ?_))
   | exact q10z.mono _ _
   | exact q14z.mono _ _ _
   | exact LeO.none _
   | refine LeO.ite ?_ ?_
   | refine LeO.bind ?_ (fun _ => ?_)
def q15z.T1 : Bool × List (List Nat × List Nat) := (true, [([], []), ([0], [0]), ([1], [1]), ([], []), ([3], [3]), ([4], [4]), ([2, 5], [2, 5]), ([], []), ([7], [7]), ([8], [8]), ([], []), ([10], [10]), ([11], [11]), ([9, 12, 6], [9, 12]), ([], []), ([14], [14]), ([], []), ([16], [16]), ([15, 17, 13], [15, 17]), ([], []), ([19], [19]), ([], []), ([21], [21]), ([20, 22, 18], [20, 22]), ([], []), ([24], [24]), ([], []), ([26], [26]), ([25, 27, 23], [25, 27]), ([], []), ([29], [29]), ([], []), ([31], [31]), ([30, 32, 28], [30, 32]), ([], []), ([34], [34]), ([], []), ([36], [36]), ([35, 37, 33], [35, 37]), ([], []), ([39], [39]), ([], []), ([41], [41]), ([40, 42, 38], [40, 42]), ([6, 13, 18, 23, 28, 33, 38, 43], [6, 13, 18, 23, 28, 33, 38, 43]), ([44, 43], [44]), ([45, 45, 0, 1, 2, 3, 4, 5, 6, 7, 8, 9, 10, 11, 12, 13, 14, 15, 16, 17, 18, 19, 20, 21, 22, 23, 24, 25, 26, 27, 28, 29, 30, 31, 32, 33, 34, 35, 36, 37, 38, 39, 40, 41, 42, 43, 44, 45], [45])])
def q15z.B1 : List Nat := [0, 1, 3, 0, 8, 24, 63, 0, 128, 384, 0, 1024, 3072, 8191, 0, 16384, 0, 65536, 262143, 0, 524288, 0, 2097152, 8388607, 0, 16777216, 0, 67108864, 268435455, 0, 536870912, 0, 2147483648, 8589934591, 0, 17179869184, 0, 68719476736, 274877906943, 0, 549755813888, 0, 2199023255552, 8796093022207, 17592186044415, 35184372088831, 70368744177663]
theorem q15z.tab1 : rtab .any (opsOf Try.f40 1) = q15z.T1 := by kernel_rfl
theorem q15z.bits1 : waitsOk q15z.T1.2 q15z.B1 = true := by kernel_rfl
set_option maxHeartbeats 8000000 in
set_option maxRecDepth 100000 in
theorem q15z.calls (k : Nat) (a0_0 : Int) (a0_1 : Int) (A0_2 : Option Addr) (c0_2 : Nat) (l0_2 : List Int) (A0_3 : Option Addr) (c0_3 : Nat) (l0_3 : List Int) (a0_4 : Int) (a0_5 : Int) (a0_6 : Int) (a0_7 : Int) (a1_0 : Int) (a1_1 : Int) (A1_2 : Option Addr) (c1_2 : Nat) (l1_2 : List Int) (A1_3 : Option Addr) (c1_3 : Nat) (l1_3 : List Int) (a1_4 : Int) (a1_5 : Int) (a1_6 : Int) (a1_7 : Int) (r : Int) (w : World) (hr0_2 : Kd.C (Kd.int .u32) w A0_2 l0_2.length l0_2) (hc0_2 : l0_2.length ≤ c0_2) (hr0_3 : Kd.C (Kd.int .u32) w A0_3 l0_3.length l0_3) (hc0_3 : l0_3.length ≤ c0_3) (hr1_2 : Kd.C (Kd.int .u32) w A1_2 l1_2.length l1_2) (hc1_2 : l1_2.length ≤ c1_2) (hr1_3 : Kd.C (Kd.int .u32) w A1_3 l1_3.length l1_3) (hc1_3 : l1_3.length ≤ c1_3) (h : q15z.f k a0_0 a0_1 l0_2 l0_3 a0_4 a0_5 a0_6 a0_7 a1_0 a1_1 l1_2 l1_3 a1_4 a1_5 a1_6 a1_7 = some r) :
  Calls Try.prog 40 #[.agg #[.int .u32 a0_0, .int .i64 a0_1, .slice A0_2 l0_2.length c0_2, .slice A0_3 l0_3.length c0_3, .int .u32 a0_4, .int .u32 a0_5, .int .i64 a0_6, .int .u32 a0_7], .agg #[.int .u32 a1_0, .int .i64 a1_1, .slice A1_2 l1_2.length c1_2, .slice A1_3 l1_3.length c1_3, .int .u32 a1_4, .int .u32 a1_5, .int .i64 a1_6, .int .u32 a1_7]] w fun e w' => e = .returned (.int .i64 r) ∧ Below w.heap.size w w' := by
 have hu38 := Try.underlying38
 have HR0_2 := Aside0.mk hr0_2
 have HC0_2 := Aside0.mk hc0_2
 clear hr0_2 hc0_2
 have HR0_3 := Aside0.mk hr0_3
 have HC0_3 := Aside0.mk hc0_3
 clear hr0_3 hc0_3
 have HR1_2 := Aside0.mk hr1_2
 have HC1_2 := Aside0.mk hc1_2
 clear hr1_2 hc1_2
 have HR1_3 := Aside0.mk hr1_3
 have HC1_3 := Aside0.mk hc1_3
 clear hr1_3 hc1_3
 have HB := Aside0.mk (Below.refl w.heap.size w)
 have H : ((q11z.f a0_0 a1_0).bind fun t3 => ((q13z.f a0_1 a1_1).bind fun t4 => ((q14z.f k l0_2 l1_2).bind fun t5 => ((q14z.f k l0_3 l1_3).bind fun t6 => ((q11z.f a0_4 a1_4).bind fun t7 => ((q11z.f a0_5 a1_5).bind fun t8 => ((q13z.f a0_6 a1_6).bind fun t9 => ((q11z.f a0_7 a1_7).bind fun t10 => ((q10z.f k (([t3, t4, t5, t6, t7, t8, t9, t10] : List Int))).bind fun t14 => (some t14)))))))))) = some r := h
 clear h
 replace H := Option.bind_eq_some_iff.mp H
 obtain ⟨t3, A30, H⟩ := H
 replace H : ((q13z.f a0_1 a1_1).bind fun t4 => ((q14z.f k l0_2 l1_2).bind fun t5 => ((q14z.f k l0_3 l1_3).bind fun t6 => ((q11z.f a0_4 a1_4).bind fun t7 => ((q11z.f a0_5 a1_5).bind fun t8 => ((q13z.f a0_6 a1_6).bind fun t9 => ((q11z.f a0_7 a1_7).bind fun t10 => ((q10z.f k (([t3, t4, t5, t6, t7, t8, t9, t10] : List Int))).bind fun t14 => (some t14))))))))) = some r := H
 have A3 := Aside0.mk A30
 clear A30
 replace H := Option.bind_eq_some_iff.mp H
 obtain ⟨t4, A40, H⟩ := H
 replace H : ((q14z.f k l0_2 l1_2).bind fun t5 => ((q14z.f k l0_3 l1_3).bind fun t6 => ((q11z.f a0_4 a1_4).bind fun t7 => ((q11z.f a0_5 a1_5).bind fun t8 => ((q13z.f a0_6 a1_6).bind fun t9 => ((q11z.f a0_7 a1_7).bind fun t10 => ((q10z.f k (([t3, t4, t5, t6, t7, t8, t9, t10] : List Int))).bind fun t14 => (some t14)))))))) = some r := H
 have A4 := Aside0.mk A40
 clear A40
 replace H := Option.bind_eq_some_iff.mp H
 obtain ⟨t5, A50, H⟩ := H
 replace H : ((q14z.f k l0_3 l1_3).bind fun t6 => ((q11z.f a0_4 a1_4).bind fun t7 => ((q11z.f a0_5 a1_5).bind fun t8 => ((q13z.f a0_6 a1_6).bind fun t9 => ((q11z.f a0_7 a1_7).bind fun t10 => ((q10z.f k (([t3, t4, t5, t6, t7, t8, t9, t10] : List Int))).bind fun t14 => (some t14))))))) = some r := H
 have A5 := Aside0.mk A50
 clear A50
 replace H := Option.bind_eq_some_iff.mp H
 obtain ⟨t6, A60, H⟩ := H
 replace H : ((q11z.f a0_4 a1_4).bind fun t7 => ((q11z.f a0_5 a1_5).bind fun t8 => ((q13z.f a0_6 a1_6).bind fun t9 => ((q11z.f a0_7 a1_7).bind fun t10 => ((q10z.f k (([t3, t4, t5, t6, t7, t8, t9, t10] : List Int))).bind fun t14 => (some t14)))))) = some r := H
 have A6 := Aside0.mk A60
 clear A60
 replace H := Option.bind_eq_some_iff.mp H
 obtain ⟨t7, A70, H⟩ := H
 replace H : ((q11z.f a0_5 a1_5).bind fun t8 => ((q13z.f a0_6 a1_6).bind fun t9 => ((q11z.f a0_7 a1_7).bind fun t10 => ((q10z.f k (([t3, t4, t5, t6, t7, t8, t9, t10] : List Int))).bind fun t14 => (some t14))))) = some r := H
 have A7 := Aside0.mk A70
 clear A70
 replace H := Option.bind_eq_some_iff.mp H
 obtain ⟨t8, A80, H⟩ := H
 replace H : ((q13z.f a0_6 a1_6).bind fun t9 => ((q11z.f a0_7 a1_7).bind fun t10 => ((q10z.f k (([t3, t4, t5, t6, t7, t8, t9, t10] : List Int))).bind fun t14 => (some t14)))) = some r := H
 have A8 := Aside0.mk A80
 clear A80
 replace H := Option.bind_eq_some_iff.mp H
 obtain ⟨t9, A90, H⟩ := H
 replace H : ((q11z.f a0_7 a1_7).bind fun t10 => ((q10z.f k (([t3, t4, t5, t6, t7, t8, t9, t10] : List Int))).bind fun t14 => (some t14))) = some r := H
 have A9 := Aside0.mk A90
 clear A90
 replace H := Option.bind_eq_some_iff.mp H
 obtain ⟨t10, A100, H⟩ := H
 replace H : ((q10z.f k (([t3, t4, t5, t6, t7, t8, t9, t10] : List Int))).bind fun t14 => (some t14)) = some r := H
 have A10 := Aside0.mk A100
 clear A100
 obtain ⟨y11, hy11⟩ : ∃ y_ : List Int, y_ = (([t3, t4, t5, t6, t7, t8, t9, t10] : List Int)) := ⟨_, rfl⟩
 replace H : ((q10z.f k y11).bind fun t14 => (some t14)) = some r := by first | (rw [hy11]; with_reducible exact H) | (have H2_ := (Option.bind_some _ _).symm.trans H; rw [hy11]; with_reducible exact H2_) | (have H2_ := (Option.bind_some _ _).symm.trans H; with_reducible exact H2_) | with_reducible exact H | (rw [hy11]; exact H) | exact H
 have Ny11 := Aside0.mk hy11
 clear hy11
 replace H := Option.bind_eq_some_iff.mp H
 obtain ⟨t14, A110, H⟩ := H
 replace H : (some t14) = some r := H
 have A11 := Aside0.mk A110
 clear A110
 obtain rfl := Option.some.inj H
 go_enter Try.func40, Try.ntmps40
 try go_wp2_with (first | ((with_reducible refine gate_dst (N := 2) rfl ?_); refine box_event ?hg (N := 2) ?hd (cs := #[.int .u32 a0_0, .int .i64 a0_1, .slice A0_2 l0_2.length c0_2, .slice A0_3 l0_3.length c0_3, .int .u32 a0_4, .int .u32 a0_5, .int .i64 a0_6, .int .u32 a0_7]) (t := 38) ?hr ?_; (case hd => rfl); (case hg => rfl); (case hr => first | (go_simp; done) | (go_simp; rfl)); intro gb1 hg w12 hbox hb; have n0_ := Aside0.mk (below_step (by repeat (first | (with_reducible first | exact HB.out | apply below_alloc | apply pw_below_drewN | apply below_drew1) | exact HB.out)) hb); have n1_ := Aside0.mk (hbox); have n2_ := Aside0.mk ((by rw [hg]; exact (below_size (by repeat (first | (with_reducible first | exact HB.out | apply below_alloc | apply pw_below_drewN | apply below_drew1) | exact HB.out))) : w.heap.size ≤ gb1)); have n3_ := Aside0.mk ((by rw [hg]; exact (below_size (by repeat (first | (with_reducible first | exact HB.out | apply below_alloc | apply pw_below_drewN | apply below_drew1) | exact HB.out))) : w.heap.size ≤ gb1)); clear HB; have HB := n0_; have BK1 := n1_; have GW1 := n2_; have GE1 := n3_; clear n0_ n1_ n2_ n3_; clear hb hbox hg) | ((with_reducible refine gate_dst (N := 3) rfl ?_); refine box_event ?hg (N := 3) ?hd (cs := #[.int .u32 a1_0, .int .i64 a1_1, .slice A1_2 l1_2.length c1_2, .slice A1_3 l1_3.length c1_3, .int .u32 a1_4, .int .u32 a1_5, .int .i64 a1_6, .int .u32 a1_7]) (t := 38) ?hr ?_; (case hd => rfl); (case hg => rfl); (case hr => first | (go_simp; done) | (go_simp; rfl)); intro gb2 hg w13 hbox hb; have n0_ := Aside0.mk (blk_below (g := gb1) (o := .cells #[.int .u32 a0_0, .int .i64 a0_1, .slice A0_2 l0_2.length c0_2, .slice A0_3 l0_3.length c0_3, .int .u32 a0_4, .int .u32 a0_5, .int .i64 a0_6, .int .u32 a0_7] 38 (0, 0)) (by (with_reducible repeat (first | refine blk_drewN ?_ _ | refine blk_drew ?_ | refine blk_alloc ?_ _)); exact BK1.out) hb); have n1_ := Aside0.mk (below_step (by repeat (first | (with_reducible first | exact HB.out | apply below_alloc | apply pw_below_drewN | apply below_drew1 | refine below_set ?_ GE1.out) | exact HB.out)) hb); have n2_ := Aside0.mk (hbox); have n3_ := Aside0.mk ((by rw [hg]; exact (below_size (by repeat (first | (with_reducible first | exact HB.out | apply below_alloc | apply pw_below_drewN | apply below_drew1 | refine below_set ?_ GE1.out) | exact HB.out))) : w.heap.size ≤ gb2)); have n4_ := Aside0.mk ((by rw [hg]; exact (below_size (by repeat (first | (with_reducible first | exact HB.out | apply below_alloc | apply pw_below_drewN | apply below_drew1 | refine below_set ?_ GE1.out) | exact HB.out))) : w.heap.size ≤ gb2)); have n5_ := Aside0.mk ((by rw [hg]; exact Nat.ne_of_lt (blk_lt (g := gb1) (o := .cells #[.int .u32 a0_0, .int .i64 a0_1, .slice A0_2 l0_2.length c0_2, .slice A0_3 l0_3.length c0_3, .int .u32 a0_4, .int .u32 a0_5, .int .i64 a0_6, .int .u32 a0_7] 38 (0, 0)) (by (with_reducible repeat (first | refine blk_drewN ?_ _ | refine blk_drew ?_ | refine blk_alloc ?_ _)); exact BK1.out)) : gb1 ≠ gb2)); have n6_ := Aside0.mk ((by rw [hg]; exact Nat.ne_of_gt (blk_lt (g := gb1) (o := .cells #[.int .u32 a0_0, .int .i64 a0_1, .slice A0_2 l0_2.length c0_2, .slice A0_3 l0_3.length c0_3, .int .u32 a0_4, .int .u32 a0_5, .int .i64 a0_6, .int .u32 a0_7] 38 (0, 0)) (by (with_reducible repeat (first | refine blk_drewN ?_ _ | refine blk_drew ?_ | refine blk_alloc ?_ _)); exact BK1.out)) : gb2 ≠ gb1)); clear BK1; clear HB; have BK1 := n0_; have HB := n1_; have BK2 := n2_; have GW2 := n3_; have GE2 := n4_; have NB1_2 := n5_; have NB2_1 := n6_; clear n0_ n1_ n2_ n3_ n4_ n5_ n6_; clear hb hbox hg))
 have n0_ := Aside0.mk (blk_drew BK1.out)
 have n1_ := Aside0.mk (blk_drew BK2.out)
 have n2_ := Aside0.mk (below_drew1 HB.out)
 clear BK1
 clear BK2
 clear HB
 have BK1 := n0_
 have BK2 := n1_
 have HB := n2_
 clear n0_ n1_ n2_
 refine start_ (n := 47) (S := fun w' => w'.cell? ⟨gb1, 0, none⟩ = some (.int .u32 a0_0) ∧ w'.cell? ⟨gb1, 1, none⟩ = some (.int .i64 a0_1) ∧ w'.cell? ⟨gb1, 2, none⟩ = some (.slice A0_2 l0_2.length c0_2) ∧ w'.cell? ⟨gb1, 3, none⟩ = some (.slice A0_3 l0_3.length c0_3) ∧ w'.cell? ⟨gb1, 4, none⟩ = some (.int .u32 a0_4) ∧ w'.cell? ⟨gb1, 5, none⟩ = some (.int .u32 a0_5) ∧ w'.cell? ⟨gb1, 6, none⟩ = some (.int .i64 a0_6) ∧ w'.cell? ⟨gb1, 7, none⟩ = some (.int .u32 a0_7) ∧ w'.cell? ⟨gb2, 0, none⟩ = some (.int .u32 a1_0) ∧ w'.cell? ⟨gb2, 1, none⟩ = some (.int .i64 a1_1) ∧ w'.cell? ⟨gb2, 2, none⟩ = some (.slice A1_2 l1_2.length c1_2) ∧ w'.cell? ⟨gb2, 3, none⟩ = some (.slice A1_3 l1_3.length c1_3) ∧ w'.cell? ⟨gb2, 4, none⟩ = some (.int .u32 a1_4) ∧ w'.cell? ⟨gb2, 5, none⟩ = some (.int .u32 a1_5) ∧ w'.cell? ⟨gb2, 6, none⟩ = some (.int .i64 a1_6) ∧ w'.cell? ⟨gb2, 7, none⟩ = some (.int .u32 a1_7)) (ds := []) #[false, false, false, false, false, false, false, false, false, false, false, false, false, false, false, false, false, false, false, false, false, false, false, false, false, false, false, false, false, false, false, false, false, false, false, false, false, false, false, false, false, false, false, false, false, false, false] (by kernel_rfl) rfl rfl ⟨(blk_cell BK1.out 0).trans rfl, (blk_cell BK1.out 1).trans rfl, (blk_cell BK1.out 2).trans rfl, (blk_cell BK1.out 3).trans rfl, (blk_cell BK1.out 4).trans rfl, (blk_cell BK1.out 5).trans rfl, (blk_cell BK1.out 6).trans rfl, (blk_cell BK1.out 7).trans rfl, (blk_cell BK2.out 0).trans rfl, (blk_cell BK2.out 1).trans rfl, (blk_cell BK2.out 2).trans rfl, (blk_cell BK2.out 3).trans rfl, (blk_cell BK2.out 4).trans rfl, (blk_cell BK2.out 5).trans rfl, (blk_cell BK2.out 6).trans rfl, (blk_cell BK2.out 7).trans rfl⟩ (fun hHeld => ?_); refine with_tabW q15z.tab1 q15z.bits1 (fun HT_ HW_ => ?_)
 generalize w13.drew = w14 at BK1 BK2 HB hHeld ⊢
 refine pure_ (i := 0) (N := some 5) (v := ?_) (a' := ?_) #[true, false, false, false, false, false, false, false, false, false, false, false, false, false, false, false, false, false, false, false, false, false, false, false, false, false, false, false, false, false, false, false, false, false, false, false, false, false, false, false, false, false, false, false, false, false, false] rfl rfl (any_of HT_.out (by kernel_rfl)) (fun _ _ _ h => h) (Or.inl ⟨by rfl, ?_⟩) ?_ ?_
 rotate_left
 ·
  intro w'
  go_simp
  with_reducible rfl
 rotate_left
 ·
  simp only [Act.put, List.setIfInBounds_toArray, List.set_cons_zero, List.set_cons_succ, i64_w, i32_w, IntKind.wrap_u32]
  rfl
 refine pure_ (i := 1) (N := some 6) (v := ?_) (a' := ?_) #[true, true, false, false, false, false, false, false, false, false, false, false, false, false, false, false, false, false, false, false, false, false, false, false, false, false, false, false, false, false, false, false, false, false, false, false, false, false, false, false, false, false, false, false, false, false, false] rfl rfl (any_of HT_.out (by kernel_rfl)) (fun _ _ _ h => h) (Or.inl ⟨by rfl, ?_⟩) ?_ ?_
 rotate_left
 ·
  intro w'
  go_simp
  with_reducible rfl
 rotate_left
 ·
  simp only [Act.put, List.setIfInBounds_toArray, List.set_cons_zero, List.set_cons_succ, i64_w, i32_w, IntKind.wrap_u32]
  rfl
 refine pure_ (i := 3) (N := some 8) (v := ?_) (a' := ?_) #[true, true, false, true, false, false, false, false, false, false, false, false, false, false, false, false, false, false, false, false, false, false, false, false, false, false, false, false, false, false, false, false, false, false, false, false, false, false, false, false, false, false, false, false, false, false, false] rfl rfl (any_of HT_.out (by kernel_rfl)) (fun _ _ _ h => h) (Or.inl ⟨by rfl, ?_⟩) ?_ ?_
 rotate_left
 ·
  intro w'
  go_simp
  with_reducible rfl
 rotate_left
 ·
  simp only [Act.put, List.setIfInBounds_toArray, List.set_cons_zero, List.set_cons_succ, i64_w, i32_w, IntKind.wrap_u32]
  rfl
 refine pure_ (i := 4) (N := some 9) (v := ?_) (a' := ?_) #[true, true, false, true, true, false, false, false, false, false, false, false, false, false, false, false, false, false, false, false, false, false, false, false, false, false, false, false, false, false, false, false, false, false, false, false, false, false, false, false, false, false, false, false, false, false, false] rfl rfl (any_of HT_.out (by kernel_rfl)) (fun _ _ _ h => h) (Or.inl ⟨by rfl, ?_⟩) ?_ ?_
 rotate_left
 ·
  intro w'
  go_simp
  with_reducible rfl
 rotate_left
 ·
  simp only [Act.put, List.setIfInBounds_toArray, List.set_cons_zero, List.set_cons_succ, i64_w, i32_w, IntKind.wrap_u32]
  rfl
 refine pure_ (i := 7) (N := some 12) (v := ?_) (a' := ?_) #[true, true, false, true, true, false, false, true, false, false, false, false, false, false, false, false, false, false, false, false, false, false, false, false, false, false, false, false, false, false, false, false, false, false, false, false, false, false, false, false, false, false, false, false, false, false, false] rfl rfl (any_of HT_.out (by kernel_rfl)) (fun _ _ _ h => h) (Or.inl ⟨by rfl, ?_⟩) ?_ ?_
 rotate_left
 ·
  intro w'
  go_simp
  with_reducible rfl
 rotate_left
 ·
  simp only [Act.put, List.setIfInBounds_toArray, List.set_cons_zero, List.set_cons_succ, i64_w, i32_w, IntKind.wrap_u32]
  rfl
 refine pure_ (i := 8) (N := some 13) (v := ?_) (a' := ?_) #[true, true, false, true, true, false, false, true, true, false, false, false, false, false, false, false, false, false, false, false, false, false, false, false, false, false, false, false, false, false, false, false, false, false, false, false, false, false, false, false, false, false, false, false, false, false, false] rfl rfl (any_of HT_.out (by kernel_rfl)) (fun _ _ _ h => h) (Or.inl ⟨by rfl, ?_⟩) ?_ ?_
 rotate_left
 ·
  intro w'
  go_simp
  with_reducible rfl
 rotate_left
 ·
  simp only [Act.put, List.setIfInBounds_toArray, List.set_cons_zero, List.set_cons_succ, i64_w, i32_w, IntKind.wrap_u32]
  rfl
 refine pure_ (i := 10) (N := some 15) (v := ?_) (a' := ?_) #[true, true, false, true, true, false, false, true, true, false, true, false, false, false, false, false, false, false, false, false, false, false, false, false, false, false, false, false, false, false, false, false, false, false, false, false, false, false, false, false, false, false, false, false, false, false, false] rfl rfl (any_of HT_.out (by kernel_rfl)) (fun _ _ _ h => h) (Or.inl ⟨by rfl, ?_⟩) ?_ ?_
 rotate_left
 ·
  intro w'
  go_simp
  with_reducible rfl
 rotate_left
 ·
  simp only [Act.put, List.setIfInBounds_toArray, List.set_cons_zero, List.set_cons_succ, i64_w, i32_w, IntKind.wrap_u32]
  rfl
 refine pure_ (i := 11) (N := some 16) (v := ?_) (a' := ?_) #[true, true, false, true, true, false, false, true, true, false, true, true, false, false, false, false, false, false, false, false, false, false, false, false, false, false, false, false, false, false, false, false, false, false, false, false, false, false, false, false, false, false, false, false, false, false, false] rfl rfl (any_of HT_.out (by kernel_rfl)) (fun _ _ _ h => h) (Or.inl ⟨by rfl, ?_⟩) ?_ ?_
 rotate_left
 ·
  intro w'
  go_simp
  with_reducible rfl
 rotate_left
 ·
  simp only [Act.put, List.setIfInBounds_toArray, List.set_cons_zero, List.set_cons_succ, i64_w, i32_w, IntKind.wrap_u32]
  rfl
 refine pure_ (i := 14) (N := some 19) (v := ?_) (a' := ?_) #[true, true, false, true, true, false, false, true, true, false, true, true, false, false, true, false, false, false, false, false, false, false, false, false, false, false, false, false, false, false, false, false, false, false, false, false, false, false, false, false, false, false, false, false, false, false, false] rfl rfl (any_of HT_.out (by kernel_rfl)) (fun _ _ _ h => h) (Or.inl ⟨by rfl, ?_⟩) ?_ ?_
 rotate_left
 ·
  intro w'
  go_simp
  with_reducible rfl
 rotate_left
 ·
  simp only [Act.put, List.setIfInBounds_toArray, List.set_cons_zero, List.set_cons_succ, i64_w, i32_w, IntKind.wrap_u32]
  rfl
 refine pure_ (i := 16) (N := some 21) (v := ?_) (a' := ?_) #[true, true, false, true, true, false, false, true, true, false, true, true, false, false, true, false, true, false, false, false, false, false, false, false, false, false, false, false, false, false, false, false, false, false, false, false, false, false, false, false, false, false, false, false, false, false, false] rfl rfl (any_of HT_.out (by kernel_rfl)) (fun _ _ _ h => h) (Or.inl ⟨by rfl, ?_⟩) ?_ ?_
 rotate_left
 ·
  intro w'
  go_simp
  with_reducible rfl
 rotate_left
 ·
  simp only [Act.put, List.setIfInBounds_toArray, List.set_cons_zero, List.set_cons_succ, i64_w, i32_w, IntKind.wrap_u32]
  rfl
 refine pure_ (i := 19) (N := some 24) (v := ?_) (a' := ?_) #[true, true, false, true, true, false, false, true, true, false, true, true, false, false, true, false, true, false, false, true, false, false, false, false, false, false, false, false, false, false, false, false, false, false, false, false, false, false, false, false, false, false, false, false, false, false, false] rfl rfl (any_of HT_.out (by kernel_rfl)) (fun _ _ _ h => h) (Or.inl ⟨by rfl, ?_⟩) ?_ ?_
 rotate_left
 ·
  intro w'
  go_simp
  with_reducible rfl
 rotate_left
 ·
  simp only [Act.put, List.setIfInBounds_toArray, List.set_cons_zero, List.set_cons_succ, i64_w, i32_w, IntKind.wrap_u32]
  rfl
 refine pure_ (i := 21) (N := some 26) (v := ?_) (a' := ?_) #[true, true, false, true, true, false, false, true, true, false, true, true, false, false, true, false, true, false, false, true, false, true, false, false, false, false, false, false, false, false, false, false, false, false, false, false, false, false, false, false, false, false, false, false, false, false, false] rfl rfl (any_of HT_.out (by kernel_rfl)) (fun _ _ _ h => h) (Or.inl ⟨by rfl, ?_⟩) ?_ ?_
 rotate_left
 ·
  intro w'
  go_simp
  with_reducible rfl
 rotate_left
 ·
  simp only [Act.put, List.setIfInBounds_toArray, List.set_cons_zero, List.set_cons_succ, i64_w, i32_w, IntKind.wrap_u32]
  rfl
 refine pure_ (i := 24) (N := some 29) (v := ?_) (a' := ?_) #[true, true, false, true, true, false, false, true, true, false, true, true, false, false, true, false, true, false, false, true, false, true, false, false, true, false, false, false, false, false, false, false, false, false, false, false, false, false, false, false, false, false, false, false, false, false, false] rfl rfl (any_of HT_.out (by kernel_rfl)) (fun _ _ _ h => h) (Or.inl ⟨by rfl, ?_⟩) ?_ ?_
 rotate_left
 ·
  intro w'
  go_simp
  with_reducible rfl
 rotate_left
 ·
  simp only [Act.put, List.setIfInBounds_toArray, List.set_cons_zero, List.set_cons_succ, i64_w, i32_w, IntKind.wrap_u32]
  rfl
 refine pure_ (i := 26) (N := some 31) (v := ?_) (a' := ?_) #[true, true, false, true, true, false, false, true, true, false, true, true, false, false, true, false, true, false, false, true, false, true, false, false, true, false, true, false, false, false, false, false, false, false, false, false, false, false, false, false, false, false, false, false, false, false, false] rfl rfl (any_of HT_.out (by kernel_rfl)) (fun _ _ _ h => h) (Or.inl ⟨by rfl, ?_⟩) ?_ ?_
 rotate_left
 ·
  intro w'
  go_simp
  with_reducible rfl
 rotate_left
 ·
  simp only [Act.put, List.setIfInBounds_toArray, List.set_cons_zero, List.set_cons_succ, i64_w, i32_w, IntKind.wrap_u32]
  rfl
 refine pure_ (i := 29) (N := some 34) (v := ?_) (a' := ?_) #[true, true, false, true, true, false, false, true, true, false, true, true, false, false, true, false, true, false, false, true, false, true, false, false, true, false, true, false, false, true, false, false, false, false, false, false, false, false, false, false, false, false, false, false, false, false, false] rfl rfl (any_of HT_.out (by kernel_rfl)) (fun _ _ _ h => h) (Or.inl ⟨by rfl, ?_⟩) ?_ ?_
 rotate_left
 ·
  intro w'
  go_simp
  with_reducible rfl
 rotate_left
 ·
  simp only [Act.put, List.setIfInBounds_toArray, List.set_cons_zero, List.set_cons_succ, i64_w, i32_w, IntKind.wrap_u32]
  rfl
 refine pure_ (i := 31) (N := some 36) (v := ?_) (a' := ?_) #[true, true, false, true, true, false, false, true, true, false, true, true, false, false, true, false, true, false, false, true, false, true, false, false, true, false, true, false, false, true, false, true, false, false, false, false, false, false, false, false, false, false, false, false, false, false, false] rfl rfl (any_of HT_.out (by kernel_rfl)) (fun _ _ _ h => h) (Or.inl ⟨by rfl, ?_⟩) ?_ ?_
 rotate_left
 ·
  intro w'
  go_simp
  with_reducible rfl
 rotate_left
 ·
  simp only [Act.put, List.setIfInBounds_toArray, List.set_cons_zero, List.set_cons_succ, i64_w, i32_w, IntKind.wrap_u32]
  rfl
 refine pure_ (i := 34) (N := some 39) (v := ?_) (a' := ?_) #[true, true, false, true, true, false, false, true, true, false, true, true, false, false, true, false, true, false, false, true, false, true, false, false, true, false, true, false, false, true, false, true, false, false, true, false, false, false, false, false, false, false, false, false, false, false, false] rfl rfl (any_of HT_.out (by kernel_rfl)) (fun _ _ _ h => h) (Or.inl ⟨by rfl, ?_⟩) ?_ ?_
 rotate_left
 ·
  intro w'
  go_simp
  with_reducible rfl
 rotate_left
 ·
  simp only [Act.put, List.setIfInBounds_toArray, List.set_cons_zero, List.set_cons_succ, i64_w, i32_w, IntKind.wrap_u32]
  rfl
 refine pure_ (i := 36) (N := some 41) (v := ?_) (a' := ?_) #[true, true, false, true, true, false, false, true, true, false, true, true, false, false, true, false, true, false, false, true, false, true, false, false, true, false, true, false, false, true, false, true, false, false, true, false, true, false, false, false, false, false, false, false, false, false, false] rfl rfl (any_of HT_.out (by kernel_rfl)) (fun _ _ _ h => h) (Or.inl ⟨by rfl, ?_⟩) ?_ ?_
 rotate_left
 ·
  intro w'
  go_simp
  with_reducible rfl
 rotate_left
 ·
  simp only [Act.put, List.setIfInBounds_toArray, List.set_cons_zero, List.set_cons_succ, i64_w, i32_w, IntKind.wrap_u32]
  rfl
 refine pure_ (i := 39) (N := some 44) (v := ?_) (a' := ?_) #[true, true, false, true, true, false, false, true, true, false, true, true, false, false, true, false, true, false, false, true, false, true, false, false, true, false, true, false, false, true, false, true, false, false, true, false, true, false, false, true, false, false, false, false, false, false, false] rfl rfl (any_of HT_.out (by kernel_rfl)) (fun _ _ _ h => h) (Or.inl ⟨by rfl, ?_⟩) ?_ ?_
 rotate_left
 ·
  intro w'
  go_simp
  with_reducible rfl
 rotate_left
 ·
  simp only [Act.put, List.setIfInBounds_toArray, List.set_cons_zero, List.set_cons_succ, i64_w, i32_w, IntKind.wrap_u32]
  rfl
 refine pure_ (i := 41) (N := some 46) (v := ?_) (a' := ?_) #[true, true, false, true, true, false, false, true, true, false, true, true, false, false, true, false, true, false, false, true, false, true, false, false, true, false, true, false, false, true, false, true, false, false, true, false, true, false, false, true, false, true, false, false, false, false, false] rfl rfl (any_of HT_.out (by kernel_rfl)) (fun _ _ _ h => h) (Or.inl ⟨by rfl, ?_⟩) ?_ ?_
 rotate_left
 ·
  intro w'
  go_simp
  with_reducible rfl
 rotate_left
 ·
  simp only [Act.put, List.setIfInBounds_toArray, List.set_cons_zero, List.set_cons_succ, i64_w, i32_w, IntKind.wrap_u32]
  rfl
 refine take_ (i := 2) (N := some 7) (v := ?_) (a' := ?_) #[true, true, true, true, true, false, false, true, true, false, true, true, false, false, true, false, true, false, false, true, false, true, false, false, true, false, true, false, false, true, false, true, false, false, true, false, true, false, false, true, false, true, false, false, false, false, false] rfl rfl (take_ofW HT_.out HW_.out (by kernel_rfl)) (fun _ _ _ h => h) (Or.inl ⟨by rfl, ?_⟩) hHeld ?_ ?_
 rotate_left
 ·
  rintro w' ⟨s0, s1, s2, s3, s4, s5, s6, s7, s8, s9, s10, s11, s12, s13, s14, s15⟩
  go_simp
  with_reducible rfl
 rotate_left
 ·
  simp only [Act.put, List.setIfInBounds_toArray, List.set_cons_zero, List.set_cons_succ, i64_w, i32_w, IntKind.wrap_u32]
  rfl
 refine take_ (i := 5) (N := some 10) (v := ?_) (a' := ?_) #[true, true, true, true, true, true, false, true, true, false, true, true, false, false, true, false, true, false, false, true, false, true, false, false, true, false, true, false, false, true, false, true, false, false, true, false, true, false, false, true, false, true, false, false, false, false, false] rfl rfl (take_ofW HT_.out HW_.out (by kernel_rfl)) (fun _ _ _ h => h) (Or.inl ⟨by rfl, ?_⟩) hHeld ?_ ?_
 rotate_left
 ·
  rintro w' ⟨s0, s1, s2, s3, s4, s5, s6, s7, s8, s9, s10, s11, s12, s13, s14, s15⟩
  go_simp
  with_reducible rfl
 rotate_left
 ·
  simp only [Act.put, List.setIfInBounds_toArray, List.set_cons_zero, List.set_cons_succ, i64_w, i32_w, IntKind.wrap_u32]
  rfl
 refine take_ (i := 9) (N := some 14) (v := ?_) (a' := ?_) #[true, true, true, true, true, true, false, true, true, true, true, true, false, false, true, false, true, false, false, true, false, true, false, false, true, false, true, false, false, true, false, true, false, false, true, false, true, false, false, true, false, true, false, false, false, false, false] rfl rfl (take_ofW HT_.out HW_.out (by kernel_rfl)) (fun _ _ _ h => h) (Or.inl ⟨by rfl, ?_⟩) hHeld ?_ ?_
 rotate_left
 ·
  rintro w' ⟨s0, s1, s2, s3, s4, s5, s6, s7, s8, s9, s10, s11, s12, s13, s14, s15⟩
  go_simp
  with_reducible rfl
 rotate_left
 ·
  simp only [Act.put, List.setIfInBounds_toArray, List.set_cons_zero, List.set_cons_succ, i64_w, i32_w, IntKind.wrap_u32]
  rfl
 refine take_ (i := 12) (N := some 17) (v := ?_) (a' := ?_) #[true, true, true, true, true, true, false, true, true, true, true, true, true, false, true, false, true, false, false, true, false, true, false, false, true, false, true, false, false, true, false, true, false, false, true, false, true, false, false, true, false, true, false, false, false, false, false] rfl rfl (take_ofW HT_.out HW_.out (by kernel_rfl)) (fun _ _ _ h => h) (Or.inl ⟨by rfl, ?_⟩) hHeld ?_ ?_
 rotate_left
 ·
  rintro w' ⟨s0, s1, s2, s3, s4, s5, s6, s7, s8, s9, s10, s11, s12, s13, s14, s15⟩
  go_simp
  with_reducible rfl
 rotate_left
 ·
  simp only [Act.put, List.setIfInBounds_toArray, List.set_cons_zero, List.set_cons_succ, i64_w, i32_w, IntKind.wrap_u32]
  rfl
 refine take_ (i := 15) (N := some 20) (v := ?_) (a' := ?_) #[true, true, true, true, true, true, false, true, true, true, true, true, true, false, true, true, true, false, false, true, false, true, false, false, true, false, true, false, false, true, false, true, false, false, true, false, true, false, false, true, false, true, false, false, false, false, false] rfl rfl (take_ofW HT_.out HW_.out (by kernel_rfl)) (fun _ _ _ h => h) (Or.inl ⟨by rfl, ?_⟩) hHeld ?_ ?_
 rotate_left
 ·
  rintro w' ⟨s0, s1, s2, s3, s4, s5, s6, s7, s8, s9, s10, s11, s12, s13, s14, s15⟩
  go_simp
  with_reducible rfl
 rotate_left
 ·
  simp only [Act.put, List.setIfInBounds_toArray, List.set_cons_zero, List.set_cons_succ, i64_w, i32_w, IntKind.wrap_u32]
  rfl
 refine take_ (i := 17) (N := some 22) (v := ?_) (a' := ?_) #[true, true, true, true, true, true, false, true, true, true, true, true, true, false, true, true, true, true, false, true, false, true, false, false, true, false, true, false, false, true, false, true, false, false, true, false, true, false, false, true, false, true, false, false, false, false, false] rfl rfl (take_ofW HT_.out HW_.out (by kernel_rfl)) (fun _ _ _ h => h) (Or.inl ⟨by rfl, ?_⟩) hHeld ?_ ?_
 rotate_left
 ·
  rintro w' ⟨s0, s1, s2, s3, s4, s5, s6, s7, s8, s9, s10, s11, s12, s13, s14, s15⟩
  go_simp
  with_reducible rfl
 rotate_left
 ·
  simp only [Act.put, List.setIfInBounds_toArray, List.set_cons_zero, List.set_cons_succ, i64_w, i32_w, IntKind.wrap_u32]
  rfl
 refine take_ (i := 20) (N := some 25) (v := ?_) (a' := ?_) #[true, true, true, true, true, true, false, true, true, true, true, true, true, false, true, true, true, true, false, true, true, true, false, false, true, false, true, false, false, true, false, true, false, false, true, false, true, false, false, true, false, true, false, false, false, false, false] rfl rfl (take_ofW HT_.out HW_.out (by kernel_rfl)) (fun _ _ _ h => h) (Or.inl ⟨by rfl, ?_⟩) hHeld ?_ ?_
 rotate_left
 ·
  rintro w' ⟨s0, s1, s2, s3, s4, s5, s6, s7, s8, s9, s10, s11, s12, s13, s14, s15⟩
  go_simp
  with_reducible rfl
 rotate_left
 ·
  simp only [Act.put, List.setIfInBounds_toArray, List.set_cons_zero, List.set_cons_succ, i64_w, i32_w, IntKind.wrap_u32]
  rfl
 refine take_ (i := 22) (N := some 27) (v := ?_) (a' := ?_) #[true, true, true, true, true, true, false, true, true, true, true, true, true, false, true, true, true, true, false, true, true, true, true, false, true, false, true, false, false, true, false, true, false, false, true, false, true, false, false, true, false, true, false, false, false, false, false] rfl rfl (take_ofW HT_.out HW_.out (by kernel_rfl)) (fun _ _ _ h => h) (Or.inl ⟨by rfl, ?_⟩) hHeld ?_ ?_
 rotate_left
 ·
  rintro w' ⟨s0, s1, s2, s3, s4, s5, s6, s7, s8, s9, s10, s11, s12, s13, s14, s15⟩
  go_simp
  with_reducible rfl
 rotate_left
 ·
  simp only [Act.put, List.setIfInBounds_toArray, List.set_cons_zero, List.set_cons_succ, i64_w, i32_w, IntKind.wrap_u32]
  rfl
 refine take_ (i := 25) (N := some 30) (v := ?_) (a' := ?_) #[true, true, true, true, true, true, false, true, true, true, true, true, true, false, true, true, true, true, false, true, true, true, true, false, true, true, true, false, false, true, false, true, false, false, true, false, true, false, false, true, false, true, false, false, false, false, false] rfl rfl (take_ofW HT_.out HW_.out (by kernel_rfl)) (fun _ _ _ h => h) (Or.inl ⟨by rfl, ?_⟩) hHeld ?_ ?_
 rotate_left
 ·
  rintro w' ⟨s0, s1, s2, s3, s4, s5, s6, s7, s8, s9, s10, s11, s12, s13, s14, s15⟩
  go_simp
  with_reducible rfl
 rotate_left
 ·
  simp only [Act.put, List.setIfInBounds_toArray, List.set_cons_zero, List.set_cons_succ, i64_w, i32_w, IntKind.wrap_u32]
  rfl
 refine take_ (i := 27) (N := some 32) (v := ?_) (a' := ?_) #[true, true, true, true, true, true, false, true, true, true, true, true, true, false, true, true, true, true, false, true, true, true, true, false, true, true, true, true, false, true, false, true, false, false, true, false, true, false, false, true, false, true, false, false, false, false, false] rfl rfl (take_ofW HT_.out HW_.out (by kernel_rfl)) (fun _ _ _ h => h) (Or.inl ⟨by rfl, ?_⟩) hHeld ?_ ?_
 rotate_left
 ·
  rintro w' ⟨s0, s1, s2, s3, s4, s5, s6, s7, s8, s9, s10, s11, s12, s13, s14, s15⟩
  go_simp
  with_reducible rfl
 rotate_left
 ·
  simp only [Act.put, List.setIfInBounds_toArray, List.set_cons_zero, List.set_cons_succ, i64_w, i32_w, IntKind.wrap_u32]
  rfl
 refine take_ (i := 30) (N := some 35) (v := ?_) (a' := ?_) #[true, true, true, true, true, true, false, true, true, true, true, true, true, false, true, true, true, true, false, true, true, true, true, false, true, true, true, true, false, true, true, true, false, false, true, false, true, false, false, true, false, true, false, false, false, false, false] rfl rfl (take_ofW HT_.out HW_.out (by kernel_rfl)) (fun _ _ _ h => h) (Or.inl ⟨by rfl, ?_⟩) hHeld ?_ ?_
 rotate_left
 ·
  rintro w' ⟨s0, s1, s2, s3, s4, s5, s6, s7, s8, s9, s10, s11, s12, s13, s14, s15⟩
  go_simp
  with_reducible rfl
 rotate_left
 ·
  simp only [Act.put, List.setIfInBounds_toArray, List.set_cons_zero, List.set_cons_succ, i64_w, i32_w, IntKind.wrap_u32]
  rfl
 refine take_ (i := 32) (N := some 37) (v := ?_) (a' := ?_) #[true, true, true, true, true, true, false, true, true, true, true, true, true, false, true, true, true, true, false, true, true, true, true, false, true, true, true, true, false, true, true, true, true, false, true, false, true, false, false, true, false, true, false, false, false, false, false] rfl rfl (take_ofW HT_.out HW_.out (by kernel_rfl)) (fun _ _ _ h => h) (Or.inl ⟨by rfl, ?_⟩) hHeld ?_ ?_
 rotate_left
 ·
  rintro w' ⟨s0, s1, s2, s3, s4, s5, s6, s7, s8, s9, s10, s11, s12, s13, s14, s15⟩
  go_simp
  with_reducible rfl
 rotate_left
 ·
  simp only [Act.put, List.setIfInBounds_toArray, List.set_cons_zero, List.set_cons_succ, i64_w, i32_w, IntKind.wrap_u32]
  rfl
 refine take_ (i := 35) (N := some 40) (v := ?_) (a' := ?_) #[true, true, true, true, true, true, false, true, true, true, true, true, true, false, true, true, true, true, false, true, true, true, true, false, true, true, true, true, false, true, true, true, true, false, true, true, true, false, false, true, false, true, false, false, false, false, false] rfl rfl (take_ofW HT_.out HW_.out (by kernel_rfl)) (fun _ _ _ h => h) (Or.inl ⟨by rfl, ?_⟩) hHeld ?_ ?_
 rotate_left
 ·
  rintro w' ⟨s0, s1, s2, s3, s4, s5, s6, s7, s8, s9, s10, s11, s12, s13, s14, s15⟩
  go_simp
  with_reducible rfl
 rotate_left
 ·
  simp only [Act.put, List.setIfInBounds_toArray, List.set_cons_zero, List.set_cons_succ, i64_w, i32_w, IntKind.wrap_u32]
  rfl
 refine take_ (i := 37) (N := some 42) (v := ?_) (a' := ?_) #[true, true, true, true, true, true, false, true, true, true, true, true, true, false, true, true, true, true, false, true, true, true, true, false, true, true, true, true, false, true, true, true, true, false, true, true, true, true, false, true, false, true, false, false, false, false, false] rfl rfl (take_ofW HT_.out HW_.out (by kernel_rfl)) (fun _ _ _ h => h) (Or.inl ⟨by rfl, ?_⟩) hHeld ?_ ?_
 rotate_left
 ·
  rintro w' ⟨s0, s1, s2, s3, s4, s5, s6, s7, s8, s9, s10, s11, s12, s13, s14, s15⟩
  go_simp
  with_reducible rfl
 rotate_left
 ·
  simp only [Act.put, List.setIfInBounds_toArray, List.set_cons_zero, List.set_cons_succ, i64_w, i32_w, IntKind.wrap_u32]
  rfl
 refine take_ (i := 40) (N := some 45) (v := ?_) (a' := ?_) #[true, true, true, true, true, true, false, true, true, true, true, true, true, false, true, true, true, true, false, true, true, true, true, false, true, true, true, true, false, true, true, true, true, false, true, true, true, true, false, true, true, true, false, false, false, false, false] rfl rfl (take_ofW HT_.out HW_.out (by kernel_rfl)) (fun _ _ _ h => h) (Or.inl ⟨by rfl, ?_⟩) hHeld ?_ ?_
 rotate_left
 ·
  rintro w' ⟨s0, s1, s2, s3, s4, s5, s6, s7, s8, s9, s10, s11, s12, s13, s14, s15⟩
  go_simp
  with_reducible rfl
 rotate_left
 ·
  simp only [Act.put, List.setIfInBounds_toArray, List.set_cons_zero, List.set_cons_succ, i64_w, i32_w, IntKind.wrap_u32]
  rfl
 refine take_ (i := 42) (N := some 47) (v := ?_) (a' := ?_) #[true, true, true, true, true, true, false, true, true, true, true, true, true, false, true, true, true, true, false, true, true, true, true, false, true, true, true, true, false, true, true, true, true, false, true, true, true, true, false, true, true, true, true, false, false, false, false] rfl rfl (take_ofW HT_.out HW_.out (by kernel_rfl)) (fun _ _ _ h => h) (Or.inl ⟨by rfl, ?_⟩) hHeld ?_ ?_
 rotate_left
 ·
  rintro w' ⟨s0, s1, s2, s3, s4, s5, s6, s7, s8, s9, s10, s11, s12, s13, s14, s15⟩
  go_simp
  with_reducible rfl
 rotate_left
 ·
  simp only [Act.put, List.setIfInBounds_toArray, List.set_cons_zero, List.set_cons_succ, i64_w, i32_w, IntKind.wrap_u32]
  rfl
 refine one_ (i := 6) (N := some 11) #[true, true, true, true, true, true, true, true, true, true, true, true, true, false, true, true, true, true, false, true, true, true, true, false, true, true, true, true, false, true, true, true, true, false, true, true, true, true, false, true, true, true, true, false, false, false, false] rfl rfl (one_of HT_.out (by kernel_rfl)) (by decide) (fun K hK => ?_)
 refine goes_ Try.func65 (by kernel_rfl) rfl #[.int .u32 a0_0, .int .u32 a1_0] (by rfl) rfl rfl (by (try simp only [List.map_toArray, List.map_cons, List.map_nil]); first | done | rfl | (simp only [List.length_drop, List.length_take]; rfl)) ?_
 with_reducible refine (q11z.calls a0_0 a1_0 t3 _ A3.out).mono ?_
 rintro e w' ⟨rfl, ⟨nd, rfl⟩⟩
 refine ⟨_, rfl, ?_⟩
 refine hK.out _ _ ⟨(blk_cell BK1.out 0).trans rfl, (blk_cell BK1.out 1).trans rfl, (blk_cell BK1.out 2).trans rfl, (blk_cell BK1.out 3).trans rfl, (blk_cell BK1.out 4).trans rfl, (blk_cell BK1.out 5).trans rfl, (blk_cell BK1.out 6).trans rfl, (blk_cell BK1.out 7).trans rfl, (blk_cell BK2.out 0).trans rfl, (blk_cell BK2.out 1).trans rfl, (blk_cell BK2.out 2).trans rfl, (blk_cell BK2.out 3).trans rfl, (blk_cell BK2.out 4).trans rfl, (blk_cell BK2.out 5).trans rfl, (blk_cell BK2.out 6).trans rfl, (blk_cell BK2.out 7).trans rfl⟩ (fun hHeld => ?_)
 clear hK K
 refine norm_ (a' := ?_) ?_ ?_
 rotate_left
 ·
  show Act.put _ (some 11) _ = _
  simp only [Act.put, List.setIfInBounds_toArray, List.set_cons_zero, List.set_cons_succ, i64_w, i32_w, IntKind.wrap_u32]
  rfl
 refine one_ (i := 13) (N := some 18) #[true, true, true, true, true, true, true, true, true, true, true, true, true, true, true, true, true, true, false, true, true, true, true, false, true, true, true, true, false, true, true, true, true, false, true, true, true, true, false, true, true, true, true, false, false, false, false] rfl rfl (one_of HT_.out (by kernel_rfl)) (by decide) (fun K hK => ?_)
 refine goes_ Try.func66 (by kernel_rfl) rfl #[.int .i64 a0_1, .int .i64 a1_1] (by rfl) rfl rfl (by (try simp only [List.map_toArray, List.map_cons, List.map_nil]); first | done | rfl | (simp only [List.length_drop, List.length_take]; rfl)) ?_
 with_reducible refine (q13z.calls a0_1 a1_1 t4 _ A4.out).mono ?_
 rintro e w' ⟨rfl, ⟨nd, rfl⟩⟩
 refine ⟨_, rfl, ?_⟩
 refine hK.out _ _ ⟨(blk_cell BK1.out 0).trans rfl, (blk_cell BK1.out 1).trans rfl, (blk_cell BK1.out 2).trans rfl, (blk_cell BK1.out 3).trans rfl, (blk_cell BK1.out 4).trans rfl, (blk_cell BK1.out 5).trans rfl, (blk_cell BK1.out 6).trans rfl, (blk_cell BK1.out 7).trans rfl, (blk_cell BK2.out 0).trans rfl, (blk_cell BK2.out 1).trans rfl, (blk_cell BK2.out 2).trans rfl, (blk_cell BK2.out 3).trans rfl, (blk_cell BK2.out 4).trans rfl, (blk_cell BK2.out 5).trans rfl, (blk_cell BK2.out 6).trans rfl, (blk_cell BK2.out 7).trans rfl⟩ (fun hHeld => ?_)
 clear hK K
 refine norm_ (a' := ?_) ?_ ?_
 rotate_left
 ·
  show Act.put _ (some 18) _ = _
  simp only [Act.put, List.setIfInBounds_toArray, List.set_cons_zero, List.set_cons_succ, i64_w, i32_w, IntKind.wrap_u32]
  rfl
 refine one_ (i := 18) (N := some 23) #[true, true, true, true, true, true, true, true, true, true, true, true, true, true, true, true, true, true, true, true, true, true, true, false, true, true, true, true, false, true, true, true, true, false, true, true, true, true, false, true, true, true, true, false, false, false, false] rfl rfl (one_of HT_.out (by kernel_rfl)) (by decide) (fun K hK => ?_)
 refine goes_ Try.func67 (by kernel_rfl) rfl #[.slice A0_2 l0_2.length c0_2, .slice A1_2 l1_2.length c1_2] (by rfl) rfl rfl (by (try simp only [List.map_toArray, List.map_cons, List.map_nil]); first | done | rfl | (simp only [List.length_drop, List.length_take]; rfl)) ?_
 with_reducible refine (q14z.calls k _ _ l0_2 _ _ l1_2 t5 _ ?side1 ?side2 ?side3 ?side4 A5.out).mono ?_
 (case side1 => repeat (first | exact (Kd.C_below HR0_2.out (by repeat (first | (with_reducible first | exact HB.out | apply below_alloc | apply pw_below_drewN | apply below_drew1 | refine below_set ?_ GE1.out | refine below_set ?_ GE2.out) | exact HB.out))) | (with_reducible refine Kd.C_alloc ?_ _) | (with_reducible refine Kd.C_drewN ?_ _) | (with_reducible refine Kd.C_drew ?_)))
 (case side2 => exact HC0_2.out)
 (case side3 => repeat (first | exact (Kd.C_below HR1_2.out (by repeat (first | (with_reducible first | exact HB.out | apply below_alloc | apply pw_below_drewN | apply below_drew1 | refine below_set ?_ GE1.out | refine below_set ?_ GE2.out) | exact HB.out))) | (with_reducible refine Kd.C_alloc ?_ _) | (with_reducible refine Kd.C_drewN ?_ _) | (with_reducible refine Kd.C_drew ?_)))
 (case side4 => exact HC1_2.out)
 rintro e w' ⟨rfl, ⟨nd, rfl⟩⟩
 refine ⟨_, rfl, ?_⟩
 refine hK.out _ _ ⟨(blk_cell BK1.out 0).trans rfl, (blk_cell BK1.out 1).trans rfl, (blk_cell BK1.out 2).trans rfl, (blk_cell BK1.out 3).trans rfl, (blk_cell BK1.out 4).trans rfl, (blk_cell BK1.out 5).trans rfl, (blk_cell BK1.out 6).trans rfl, (blk_cell BK1.out 7).trans rfl, (blk_cell BK2.out 0).trans rfl, (blk_cell BK2.out 1).trans rfl, (blk_cell BK2.out 2).trans rfl, (blk_cell BK2.out 3).trans rfl, (blk_cell BK2.out 4).trans rfl, (blk_cell BK2.out 5).trans rfl, (blk_cell BK2.out 6).trans rfl, (blk_cell BK2.out 7).trans rfl⟩ (fun hHeld => ?_)
 clear hK K
 refine norm_ (a' := ?_) ?_ ?_
 rotate_left
 ·
  show Act.put _ (some 23) _ = _
  simp only [Act.put, List.setIfInBounds_toArray, List.set_cons_zero, List.set_cons_succ, i64_w, i32_w, IntKind.wrap_u32]
  rfl
 refine one_ (i := 23) (N := some 28) #[true, true, true, true, true, true, true, true, true, true, true, true, true, true, true, true, true, true, true, true, true, true, true, true, true, true, true, true, false, true, true, true, true, false, true, true, true, true, false, true, true, true, true, false, false, false, false] rfl rfl (one_of HT_.out (by kernel_rfl)) (by decide) (fun K hK => ?_)
 refine goes_ Try.func67 (by kernel_rfl) rfl #[.slice A0_3 l0_3.length c0_3, .slice A1_3 l1_3.length c1_3] (by rfl) rfl rfl (by (try simp only [List.map_toArray, List.map_cons, List.map_nil]); first | done | rfl | (simp only [List.length_drop, List.length_take]; rfl)) ?_
 with_reducible refine (q14z.calls k _ _ l0_3 _ _ l1_3 t6 _ ?side1 ?side2 ?side3 ?side4 A6.out).mono ?_
 (case side1 => repeat (first | exact (Kd.C_below HR0_3.out (by repeat (first | (with_reducible first | exact HB.out | apply below_alloc | apply pw_below_drewN | apply below_drew1 | refine below_set ?_ GE1.out | refine below_set ?_ GE2.out) | exact HB.out))) | (with_reducible refine Kd.C_alloc ?_ _) | (with_reducible refine Kd.C_drewN ?_ _) | (with_reducible refine Kd.C_drew ?_)))
 (case side2 => exact HC0_3.out)
 (case side3 => repeat (first | exact (Kd.C_below HR1_3.out (by repeat (first | (with_reducible first | exact HB.out | apply below_alloc | apply pw_below_drewN | apply below_drew1 | refine below_set ?_ GE1.out | refine below_set ?_ GE2.out) | exact HB.out))) | (with_reducible refine Kd.C_alloc ?_ _) | (with_reducible refine Kd.C_drewN ?_ _) | (with_reducible refine Kd.C_drew ?_)))
 (case side4 => exact HC1_3.out)
 rintro e w' ⟨rfl, ⟨nd, rfl⟩⟩
 refine ⟨_, rfl, ?_⟩
 refine hK.out _ _ ⟨(blk_cell BK1.out 0).trans rfl, (blk_cell BK1.out 1).trans rfl, (blk_cell BK1.out 2).trans rfl, (blk_cell BK1.out 3).trans rfl, (blk_cell BK1.out 4).trans rfl, (blk_cell BK1.out 5).trans rfl, (blk_cell BK1.out 6).trans rfl, (blk_cell BK1.out 7).trans rfl, (blk_cell BK2.out 0).trans rfl, (blk_cell BK2.out 1).trans rfl, (blk_cell BK2.out 2).trans rfl, (blk_cell BK2.out 3).trans rfl, (blk_cell BK2.out 4).trans rfl, (blk_cell BK2.out 5).trans rfl, (blk_cell BK2.out 6).trans rfl, (blk_cell BK2.out 7).trans rfl⟩ (fun hHeld => ?_)
 clear hK K
 refine norm_ (a' := ?_) ?_ ?_
 rotate_left
 ·
  show Act.put _ (some 28) _ = _
  simp only [Act.put, List.setIfInBounds_toArray, List.set_cons_zero, List.set_cons_succ, i64_w, i32_w, IntKind.wrap_u32]
  rfl
 refine one_ (i := 28) (N := some 33) #[true, true, true, true, true, true, true, true, true, true, true, true, true, true, true, true, true, true, true, true, true, true, true, true, true, true, true, true, true, true, true, true, true, false, true, true, true, true, false, true, true, true, true, false, false, false, false] rfl rfl (one_of HT_.out (by kernel_rfl)) (by decide) (fun K hK => ?_)
 refine goes_ Try.func65 (by kernel_rfl) rfl #[.int .u32 a0_4, .int .u32 a1_4] (by rfl) rfl rfl (by (try simp only [List.map_toArray, List.map_cons, List.map_nil]); first | done | rfl | (simp only [List.length_drop, List.length_take]; rfl)) ?_
 with_reducible refine (q11z.calls a0_4 a1_4 t7 _ A7.out).mono ?_
 rintro e w' ⟨rfl, ⟨nd, rfl⟩⟩
 refine ⟨_, rfl, ?_⟩
 refine hK.out _ _ ⟨(blk_cell BK1.out 0).trans rfl, (blk_cell BK1.out 1).trans rfl, (blk_cell BK1.out 2).trans rfl, (blk_cell BK1.out 3).trans rfl, (blk_cell BK1.out 4).trans rfl, (blk_cell BK1.out 5).trans rfl, (blk_cell BK1.out 6).trans rfl, (blk_cell BK1.out 7).trans rfl, (blk_cell BK2.out 0).trans rfl, (blk_cell BK2.out 1).trans rfl, (blk_cell BK2.out 2).trans rfl, (blk_cell BK2.out 3).trans rfl, (blk_cell BK2.out 4).trans rfl, (blk_cell BK2.out 5).trans rfl, (blk_cell BK2.out 6).trans rfl, (blk_cell BK2.out 7).trans rfl⟩ (fun hHeld => ?_)
 clear hK K
 refine norm_ (a' := ?_) ?_ ?_
 rotate_left
 ·
  show Act.put _ (some 33) _ = _
  simp only [Act.put, List.setIfInBounds_toArray, List.set_cons_zero, List.set_cons_succ, i64_w, i32_w, IntKind.wrap_u32]
  rfl
 refine one_ (i := 33) (N := some 38) #[true, true, true, true, true, true, true, true, true, true, true, true, true, true, true, true, true, true, true, true, true, true, true, true, true, true, true, true, true, true, true, true, true, true, true, true, true, true, false, true, true, true, true, false, false, false, false] rfl rfl (one_of HT_.out (by kernel_rfl)) (by decide) (fun K hK => ?_)
 refine goes_ Try.func65 (by kernel_rfl) rfl #[.int .u32 a0_5, .int .u32 a1_5] (by rfl) rfl rfl (by (try simp only [List.map_toArray, List.map_cons, List.map_nil]); first | done | rfl | (simp only [List.length_drop, List.length_take]; rfl)) ?_
 with_reducible refine (q11z.calls a0_5 a1_5 t8 _ A8.out).mono ?_
 rintro e w' ⟨rfl, ⟨nd, rfl⟩⟩
 refine ⟨_, rfl, ?_⟩
 refine hK.out _ _ ⟨(blk_cell BK1.out 0).trans rfl, (blk_cell BK1.out 1).trans rfl, (blk_cell BK1.out 2).trans rfl, (blk_cell BK1.out 3).trans rfl, (blk_cell BK1.out 4).trans rfl, (blk_cell BK1.out 5).trans rfl, (blk_cell BK1.out 6).trans rfl, (blk_cell BK1.out 7).trans rfl, (blk_cell BK2.out 0).trans rfl, (blk_cell BK2.out 1).trans rfl, (blk_cell BK2.out 2).trans rfl, (blk_cell BK2.out 3).trans rfl, (blk_cell BK2.out 4).trans rfl, (blk_cell BK2.out 5).trans rfl, (blk_cell BK2.out 6).trans rfl, (blk_cell BK2.out 7).trans rfl⟩ (fun hHeld => ?_)
 clear hK K
 refine norm_ (a' := ?_) ?_ ?_
 rotate_left
 ·
  show Act.put _ (some 38) _ = _
  simp only [Act.put, List.setIfInBounds_toArray, List.set_cons_zero, List.set_cons_succ, i64_w, i32_w, IntKind.wrap_u32]
  rfl
 refine one_ (i := 38) (N := some 43) #[true, true, true, true, true, true, true, true, true, true, true, true, true, true, true, true, true, true, true, true, true, true, true, true, true, true, true, true, true, true, true, true, true, true, true, true, true, true, true, true, true, true, true, false, false, false, false] rfl rfl (one_of HT_.out (by kernel_rfl)) (by decide) (fun K hK => ?_)
 refine goes_ Try.func66 (by kernel_rfl) rfl #[.int .i64 a0_6, .int .i64 a1_6] (by rfl) rfl rfl (by (try simp only [List.map_toArray, List.map_cons, List.map_nil]); first | done | rfl | (simp only [List.length_drop, List.length_take]; rfl)) ?_
 with_reducible refine (q13z.calls a0_6 a1_6 t9 _ A9.out).mono ?_
 rintro e w' ⟨rfl, ⟨nd, rfl⟩⟩
 refine ⟨_, rfl, ?_⟩
 refine hK.out _ _ ⟨(blk_cell BK1.out 0).trans rfl, (blk_cell BK1.out 1).trans rfl, (blk_cell BK1.out 2).trans rfl, (blk_cell BK1.out 3).trans rfl, (blk_cell BK1.out 4).trans rfl, (blk_cell BK1.out 5).trans rfl, (blk_cell BK1.out 6).trans rfl, (blk_cell BK1.out 7).trans rfl, (blk_cell BK2.out 0).trans rfl, (blk_cell BK2.out 1).trans rfl, (blk_cell BK2.out 2).trans rfl, (blk_cell BK2.out 3).trans rfl, (blk_cell BK2.out 4).trans rfl, (blk_cell BK2.out 5).trans rfl, (blk_cell BK2.out 6).trans rfl, (blk_cell BK2.out 7).trans rfl⟩ (fun hHeld => ?_)
 clear hK K
 refine norm_ (a' := ?_) ?_ ?_
 rotate_left
 ·
  show Act.put _ (some 43) _ = _
  simp only [Act.put, List.setIfInBounds_toArray, List.set_cons_zero, List.set_cons_succ, i64_w, i32_w, IntKind.wrap_u32]
  rfl
 refine one_ (i := 43) (N := some 48) #[true, true, true, true, true, true, true, true, true, true, true, true, true, true, true, true, true, true, true, true, true, true, true, true, true, true, true, true, true, true, true, true, true, true, true, true, true, true, true, true, true, true, true, true, false, false, false] rfl rfl (one_of HT_.out (by kernel_rfl)) (by decide) (fun K hK => ?_)
 refine goes_ Try.func65 (by kernel_rfl) rfl #[.int .u32 a0_7, .int .u32 a1_7] (by rfl) rfl rfl (by (try simp only [List.map_toArray, List.map_cons, List.map_nil]); first | done | rfl | (simp only [List.length_drop, List.length_take]; rfl)) ?_
 with_reducible refine (q11z.calls a0_7 a1_7 t10 _ A10.out).mono ?_
 rintro e w' ⟨rfl, ⟨nd, rfl⟩⟩
 refine ⟨_, rfl, ?_⟩
 refine hK.out _ _ ⟨(blk_cell BK1.out 0).trans rfl, (blk_cell BK1.out 1).trans rfl, (blk_cell BK1.out 2).trans rfl, (blk_cell BK1.out 3).trans rfl, (blk_cell BK1.out 4).trans rfl, (blk_cell BK1.out 5).trans rfl, (blk_cell BK1.out 6).trans rfl, (blk_cell BK1.out 7).trans rfl, (blk_cell BK2.out 0).trans rfl, (blk_cell BK2.out 1).trans rfl, (blk_cell BK2.out 2).trans rfl, (blk_cell BK2.out 3).trans rfl, (blk_cell BK2.out 4).trans rfl, (blk_cell BK2.out 5).trans rfl, (blk_cell BK2.out 6).trans rfl, (blk_cell BK2.out 7).trans rfl⟩ (fun hHeld => ?_)
 clear hK K
 refine norm_ (a' := ?_) ?_ ?_
 rotate_left
 ·
  show Act.put _ (some 48) _ = _
  simp only [Act.put, List.setIfInBounds_toArray, List.set_cons_zero, List.set_cons_succ, i64_w, i32_w, IntKind.wrap_u32]
  rfl
 refine one_ (i := 44) (N := some 49) #[true, true, true, true, true, true, true, true, true, true, true, true, true, true, true, true, true, true, true, true, true, true, true, true, true, true, true, true, true, true, true, true, true, true, true, true, true, true, true, true, true, true, true, true, true, false, false] rfl rfl (one_of HT_.out (by kernel_rfl)) (by decide) (fun K hK => ?_)
 refine Kd.R_lit_step (Kd.int .i64) _ 3 ?hg (N := 49) ?hd (xs := ([t3, t4, t5, t6, t7, t8, t9, t10] : List Int)) (inner := [.int .i64 t3, .int .i64 t4, .int .i64 t5, .int .i64 t6, .int .i64 t7, .int .i64 t8, .int .i64 t9, .int .i64 t10]) (ok := fun _ => True) (okp := fun _ => True) ?hr ?hp (fun _ hk => hk) trivial (Below.refl _ _) (Nat.le_refl _) (by simp) ?_; (case hd => rfl); (case hg => rfl); (case hr => first | (go_simp; done) | (go_simp; rfl)); (case hp => exact (Reps.one (show Kd.M (Kd.int .i64) _ _ _ t3 [.int .i64 t3] from rfl) (Reps.one (show Kd.M (Kd.int .i64) _ _ _ t4 [.int .i64 t4] from rfl) (Reps.one (show Kd.M (Kd.int .i64) _ _ _ t5 [.int .i64 t5] from rfl) (Reps.one (show Kd.M (Kd.int .i64) _ _ _ t6 [.int .i64 t6] from rfl) (Reps.one (show Kd.M (Kd.int .i64) _ _ _ t7 [.int .i64 t7] from rfl) (Reps.one (show Kd.M (Kd.int .i64) _ _ _ t8 [.int .i64 t8] from rfl) (Reps.one (show Kd.M (Kd.int .i64) _ _ _ t9 [.int .i64 t9] from rfl) (Reps.one (show Kd.M (Kd.int .i64) _ _ _ t10 [.int .i64 t10] from rfl) (Reps.none _ _))))))))))
 intro v12 w15 ho16 hb hg_ hnew_
 clear hg_ hnew_
 (first | rw [← Ny11.out] at ho16 | (simp only [Int.reduceToNat] at ho16; rw [← Ny11.out] at ho16))
 have n0_ := Aside0.mk (Kd.R_lower ho16 (below_size (by repeat (first | (with_reducible first | exact HB.out | apply below_alloc | apply pw_below_drewN | apply below_drew1 | refine below_set ?_ GE1.out | refine below_set ?_ GE2.out) | exact HB.out))))
 have n1_ := Aside0.mk (blk_below (g := gb1) (o := .cells #[.int .u32 a0_0, .int .i64 a0_1, .slice A0_2 l0_2.length c0_2, .slice A0_3 l0_3.length c0_3, .int .u32 a0_4, .int .u32 a0_5, .int .i64 a0_6, .int .u32 a0_7] 38 (0, 0)) (by (with_reducible repeat (first | refine blk_drewN ?_ _ | refine blk_drew ?_ | refine blk_alloc ?_ _)); exact BK1.out) hb)
 have n2_ := Aside0.mk (blk_below (g := gb2) (o := .cells #[.int .u32 a1_0, .int .i64 a1_1, .slice A1_2 l1_2.length c1_2, .slice A1_3 l1_3.length c1_3, .int .u32 a1_4, .int .u32 a1_5, .int .i64 a1_6, .int .u32 a1_7] 38 (0, 0)) (by (with_reducible repeat (first | refine blk_drewN ?_ _ | refine blk_drew ?_ | refine blk_alloc ?_ _)); exact BK2.out) hb)
 have n3_ := Aside0.mk (below_step (by repeat (first | (with_reducible first | exact HB.out | apply below_alloc | apply pw_below_drewN | apply below_drew1 | refine below_set ?_ GE1.out | refine below_set ?_ GE2.out) | exact HB.out)) hb)
 clear BK1
 clear BK2
 clear HB
 have HO13 := n0_
 have BK1 := n1_
 have BK2 := n2_
 have HB := n3_
 clear n0_ n1_ n2_ n3_
 clear hb ho16
 obtain ⟨Ao17, co17, eo17⟩ := Kd.R_slice HO13.out
 (first | subst eo17 | (injection eo17 with f1_ f2_ f3_; have f4_ := f1_.symm; have f5_ := f3_.symm; clear f1_ f2_ f3_; subst f4_; subst f5_))
 refine hK.out _ _ ⟨(blk_cell BK1.out 0).trans rfl, (blk_cell BK1.out 1).trans rfl, (blk_cell BK1.out 2).trans rfl, (blk_cell BK1.out 3).trans rfl, (blk_cell BK1.out 4).trans rfl, (blk_cell BK1.out 5).trans rfl, (blk_cell BK1.out 6).trans rfl, (blk_cell BK1.out 7).trans rfl, (blk_cell BK2.out 0).trans rfl, (blk_cell BK2.out 1).trans rfl, (blk_cell BK2.out 2).trans rfl, (blk_cell BK2.out 3).trans rfl, (blk_cell BK2.out 4).trans rfl, (blk_cell BK2.out 5).trans rfl, (blk_cell BK2.out 6).trans rfl, (blk_cell BK2.out 7).trans rfl⟩ (fun hHeld => ?_)
 clear hK K
 refine norm_ (a' := ?_) ?_ ?_
 rotate_left
 ·
  show Act.put _ (some 49) _ = _
  simp only [Act.put, List.setIfInBounds_toArray, List.set_cons_zero, List.set_cons_succ, i64_w, i32_w, IntKind.wrap_u32]
  rfl
 refine one_ (i := 45) (N := some 50) #[true, true, true, true, true, true, true, true, true, true, true, true, true, true, true, true, true, true, true, true, true, true, true, true, true, true, true, true, true, true, true, true, true, true, true, true, true, true, true, true, true, true, true, true, true, true, false] rfl rfl (one_of HT_.out (by kernel_rfl)) (by decide) (fun K hK => ?_)
 refine goes_ Try.func64 (by kernel_rfl) rfl #[.slice Ao17 y11.length co17] (by rfl) rfl rfl (by (try simp only [List.map_toArray, List.map_cons, List.map_nil]); first | done | rfl | (simp only [List.length_drop, List.length_take]; rfl)) ?_
 with_reducible refine (q10z.calls k _ _ y11 t14 _ ?side1 ?side2 A11.out).mono ?_
 (case side1 => repeat (first | exact (Kd.R_reads' HO13.out).2.2 | (with_reducible refine Kd.C_alloc ?_ _) | (with_reducible refine Kd.C_drewN ?_ _) | (with_reducible refine Kd.C_drew ?_)))
 (case side2 => exact (Kd.R_reads' HO13.out).2.1)
 rintro e w' ⟨rfl, ⟨nd, rfl⟩⟩
 refine ⟨_, rfl, ?_⟩
 refine hK.out _ _ ⟨(blk_cell BK1.out 0).trans rfl, (blk_cell BK1.out 1).trans rfl, (blk_cell BK1.out 2).trans rfl, (blk_cell BK1.out 3).trans rfl, (blk_cell BK1.out 4).trans rfl, (blk_cell BK1.out 5).trans rfl, (blk_cell BK1.out 6).trans rfl, (blk_cell BK1.out 7).trans rfl, (blk_cell BK2.out 0).trans rfl, (blk_cell BK2.out 1).trans rfl, (blk_cell BK2.out 2).trans rfl, (blk_cell BK2.out 3).trans rfl, (blk_cell BK2.out 4).trans rfl, (blk_cell BK2.out 5).trans rfl, (blk_cell BK2.out 6).trans rfl, (blk_cell BK2.out 7).trans rfl⟩ (fun hHeld => ?_)
 clear hK K
 refine norm_ (a' := ?_) ?_ ?_
 rotate_left
 ·
  show Act.put _ (some 50) _ = _
  simp only [Act.put, List.setIfInBounds_toArray, List.set_cons_zero, List.set_cons_succ, i64_w, i32_w, IntKind.wrap_u32]
  rfl
 refine pure_ (i := 46) (N := some 4) (v := ?_) (a' := ?_) #[true, true, true, true, true, true, true, true, true, true, true, true, true, true, true, true, true, true, true, true, true, true, true, true, true, true, true, true, true, true, true, true, true, true, true, true, true, true, true, true, true, true, true, true, true, true, true] rfl rfl (any_of HT_.out (by kernel_rfl)) (fun _ _ _ h => h) (Or.inl ⟨by rfl, ?_⟩) ?_ ?_
 rotate_left
 ·
  intro w'
  go_simp
  with_reducible rfl
 rotate_left
 ·
  simp only [Act.put, List.setIfInBounds_toArray, List.set_cons_zero, List.set_cons_succ, i64_w, i32_w, IntKind.wrap_u32]
  rfl
 refine done_ (done_of HT_.out (by kernel_rfl)) ?_
 try go_wp2
 go_ret
 exact ⟨by first | rfl | (simp [errW_none, errW_some] <;> rfl) | (simp [*, errW_none, errW_some] <;> rfl), by repeat (first | (with_reducible first | exact HB.out | apply below_alloc | apply pw_below_drewN | apply below_drew1 | refine below_set ?_ GE1.out | refine below_set ?_ GE2.out) | exact HB.out)⟩

end Go.Proofs.Ythekledcoeeheaa.P

namespace Go.Proofs.Ythekledcoeeheaa.P
open Go.RowKit Go.Proofs.YthekledcoeeheaaW.PrintWords Go.Proofs.YthekledcoeeheaaW.PrintLast Go.Proofs.YthekledcoeeheaaW.PrintMore
attribute [local go_sem] max2_int min2_int max_two min_two max_three min_three max_four min_four
set_option linter.unusedVariables false
set_option linter.unusedSimpArgs false

/-! ### dragomanref01_Nums: function 55 -/
def q16z.l0 : Nat → List Int → List Int → Int → Int → Option (Bool)
 | 0, _, _, _, _ => none
 | k + 1, x0, x1, x12, x13 => if x13 < x12 then (if 0 ≤ x13 then (if x13 < (x0.length : Int) then (if x13 < (x1.length : Int) then (if (rd x0 x13) = (rd x1 x13) then (q16z.l0 k x0 x1 x12 (wrap64 (x13 + 1))) else (some false)) else (none)) else (none)) else (none)) else (some true)
def q16z.f (k : Nat) (l0 : List Int) (l1 : List Int) : Option (Bool) := if (l0.length : Int) = (l1.length : Int) then (q16z.l0 k l0 l1 (l0.length : Int) 0) else (some false)
theorem q16z.mono_l : ∀ k, (∀ y0 y1 y2 y3, LeO (q16z.l0 k y0 y1 y2 y3) (q16z.l0 (k + 1) y0 y1 y2 y3))
 | 0 => fun _ _ _ _ r h => by simp [q16z.l0] at h
 | k + 1 => by
  have ih0 := q16z.mono_l k
  ·
   intro y0 y1 y2 y3
   unfold q16z.l0
   repeat' first
   | (with_reducible exact ih0 _ _ _ _)
   | (with_reducible exact LeO.refl _)
   | (with_reducible exact LeO.none _)
   | (with_reducible refine LeO.ite ?_ ?_)
   | (with_reducible refine LeO.bind ?_ (fun _ => ?_))
   | exact ih0 _ _ _ _
   | exact LeO.none _
   | refine LeO.ite ?_ ?_
   | refine LeO.bind ?_ (fun _ => ?_)
theorem q16z.mono : ∀ a0 a1 k, LeO (q16z.f k a0 a1) (q16z.f (k + 1) a0 a1) := by
 intro a0 a1 k
 have ih0 := q16z.mono_l k
 unfold q16z.f
 repeat' first
   | (with_reducible exact ih0 _ _ _ _)
   | (with_reducible exact LeO.refl _)
   | (with_reducible exact LeO.none _)
   | (with_reducible refine LeO.ite ?_ ?_)
   | (with_reducible refine LeO.bind ?_ (fun _ => ?_))
   | exact ih0 _ _ _ _
   | exact LeO.none _
   | refine LeO.ite ?_ ?_
   | refine LeO.bind ?_ (fun _ => ?_)
set_option maxHeartbeats 8000000 in
set_option maxRecDepth 100000 in
theorem q16z.calls (k : Nat) (A0 : Option Addr) (c0 : Nat) (l0 : List Int) (A1 : Option Addr) (c1 : Nat) (l1 : List Int) (r : Bool) (w : World) (hr0 : Kd.C (Kd.int .u32) w A0 l0.length l0) (hc0 : l0.length ≤ c0) (hr1 : Kd.C (Kd.int .u32) w A1 l1.length l1) (hc1 : l1.length ≤ c1) (h : q16z.f k l0 l1 = some r) :
  Calls Try.prog 55 #[.slice A0 l0.length c0, .slice A1 l1.length c1] w fun e w' => e = .returned (.bool r) ∧ Drawn0 w w' := by
 have HR0 := Aside0.mk hr0
 have HC0 := Aside0.mk hc0
 clear hr0 hc0
 have HR1 := Aside0.mk hr1
 have HC1 := Aside0.mk hc1
 clear hr1 hc1
 have H : (if (l0.length : Int) = (l1.length : Int) then (q16z.l0 k l0 l1 (l0.length : Int) 0) else (some false)) = some r := h
 clear h
 by_cases c3 : (l0.length : Int) = (l1.length : Int)
 ·
  rw [if_pos c3] at H
  have c3b0 : ((l0.length : Int) == (l1.length : Int)) = true := beq_iff_eq.mpr c3
  have c3b1 : ((l0.length : Int) != (l1.length : Int)) = false := bne_eq_false_iff_eq.mpr c3
  have c3b2 : (l0.length == l1.length) = true := by first | simpa using c3 | (simp at c3 ⊢; omega)
  clear c3
  have H' := Aside0.mk H
  clear H
  go_enter Try.func55, Try.ntmps55
  go_wp2
  repeat (go_quiet (fail); try go_wp2)
  go_loopg [13] k (fun kq v13 w' => ∃ (x13_1 : Int), v13 = .int .i64 x13_1 ∧ Aside0 (q16z.l0 kq l0 l1 (l0.length : Int) x13_1 = some r) ∧ Aside0 (kq ≤ k) ∧ Drawn0 w w')
  case atStart => exact ⟨(0), (by first | rfl | (simp; done) | (simp [*]; done)), H', ⟨Nat.le_refl _⟩, by repeat (first | exact Drawn0.refl _ | apply Drawn0.step)⟩
  case round =>
   clear H'
   try clear c1
   try clear p2
   try clear c3
   try clear c3b0
   try clear c3b1
   try clear c3b2
   obtain ⟨x13_1, rfl, HA, HK1, ⟨m1, rfl⟩⟩ := hrel
   cases gk with
   | zero => exact absurd HA.out (by simp [q16z.l0])
   | succ k1 =>
    have H := HA.out
    clear HA
    simp only [q16z.l0] at H
    by_cases c4 : x13_1 < (l0.length : Int)
    ·
     rw [if_pos c4] at H
     have c4b0 : decide (x13_1 < (l0.length : Int)) = true := decide_eq_true c4
     clear c4
     by_cases c5 : 0 ≤ x13_1
     ·
      rw [if_pos c5] at H
      have c5b0 : decide (0 ≤ x13_1) = true := decide_eq_true c5
      clear c5
      by_cases c6 : x13_1 < (l0.length : Int)
      ·
       rw [if_pos c6] at H
       have c6b0 : decide (x13_1 < (l0.length : Int)) = true := decide_eq_true c6
       clear c6
       by_cases c7 : x13_1 < (l1.length : Int)
       ·
        rw [if_pos c7] at H
        have c7b0 : decide (x13_1 < (l1.length : Int)) = true := decide_eq_true c7
        clear c7
        by_cases c8 : (rd l0 x13_1) = (rd l1 x13_1)
        ·
         rw [if_pos c8] at H
         have c8b0 : ((rd l0 x13_1) == (rd l1 x13_1)) = true := beq_iff_eq.mpr c8
         have c8b1 : ((rd l0 x13_1) != (rd l1 x13_1)) = false := bne_eq_false_iff_eq.mpr c8
         clear c8
         have H' := Aside0.mk H
         clear H
         have p1 : 0 ≤ (x13_1 : Int) := of_decide_eq_true (by first | (with_reducible assumption) | assumption)
         have q1 : x13_1 < (l0.length : Int) := of_decide_eq_true (by first | (with_reducible assumption) | assumption)
         obtain ⟨ad1, e1, hx1_0⟩ := Kd.at_int HR0.out x13_1 p1 q1
         cases e1
         replace p1 := eq_true p1
         replace q1 := eq_true q1
         have p2 : 0 ≤ (x13_1 : Int) := of_decide_eq_true (by first | (with_reducible assumption) | assumption)
         have q2 : x13_1 < (l1.length : Int) := of_decide_eq_true (by first | (with_reducible assumption) | assumption)
         obtain ⟨ad2, e2, hx2_0⟩ := Kd.at_int HR1.out x13_1 p2 q2
         cases e2
         replace p2 := eq_true p2
         replace q2 := eq_true q2
         go_wp2
         repeat (go_quiet (fail); try go_wp2)
         go_roundg k1
         case measure => have := HK1.out; omega
         case rel => exact ⟨(wrap64 (x13_1 + 1)), (by first | rfl | (simp; done) | (simp [*]; done)), H', ⟨by have := HK1.out; omega⟩, by repeat (first | exact Drawn0.refl _ | apply Drawn0.step)⟩
        ·
         rw [if_neg c8] at H
         have c8b0 : ((rd l0 x13_1) == (rd l1 x13_1)) = false := beq_eq_false_iff_ne.mpr c8
         have c8b1 : ((rd l0 x13_1) != (rd l1 x13_1)) = true := bne_iff_ne.mpr c8
         obtain rfl := Option.some.inj H
         have p1 : 0 ≤ (x13_1 : Int) := of_decide_eq_true (by first | (with_reducible assumption) | assumption)
         have q1 : x13_1 < (l0.length : Int) := of_decide_eq_true (by first | (with_reducible assumption) | assumption)
         obtain ⟨ad1, e1, hx1_0⟩ := Kd.at_int HR0.out x13_1 p1 q1
         cases e1
         replace p1 := eq_true p1
         replace q1 := eq_true q1
         have p2 : 0 ≤ (x13_1 : Int) := of_decide_eq_true (by first | (with_reducible assumption) | assumption)
         have q2 : x13_1 < (l1.length : Int) := of_decide_eq_true (by first | (with_reducible assumption) | assumption)
         obtain ⟨ad2, e2, hx2_0⟩ := Kd.at_int HR1.out x13_1 p2 q2
         cases e2
         replace p2 := eq_true p2
         replace q2 := eq_true q2
         go_wp2
         repeat (go_quiet (fail); try go_wp2)
         go_ret
         exact ⟨by first | rfl | (simp; done) | (simp [*]; done), by repeat (first | exact Drawn0.refl _ | apply Drawn0.step)⟩
       ·
        rw [if_neg c7] at H
        exact absurd H (by simp)
      ·
       rw [if_neg c6] at H
       exact absurd H (by simp)
     ·
      rw [if_neg c5] at H
      exact absurd H (by simp)
    ·
     rw [if_neg c4] at H
     have c4b0 : decide (x13_1 < (l0.length : Int)) = false := decide_eq_false c4
     clear c4
     obtain rfl := Option.some.inj H
     go_wp2
     repeat (go_quiet (fail); try go_wp2)
     go_ret
     exact ⟨by first | rfl | (simp; done) | (simp [*]; done), by repeat (first | exact Drawn0.refl _ | apply Drawn0.step)⟩
 ·
  rw [if_neg c3] at H
  have c3b0 : ((l0.length : Int) == (l1.length : Int)) = false := beq_eq_false_iff_ne.mpr c3
  have c3b1 : ((l0.length : Int) != (l1.length : Int)) = true := bne_iff_ne.mpr c3
  have c3b2 : (l0.length == l1.length) = false := by first | simpa using c3 | (simp at c3 ⊢; omega)
  obtain rfl := Option.some.inj H
  go_enter Try.func55, Try.ntmps55
  go_wp2
  repeat (go_quiet (fail); try go_wp2)
  go_ret
  exact ⟨by first | rfl | (simp; done) | (simp [*]; done), by repeat (first | exact Drawn0.refl _ | apply Drawn0.step)⟩

end Go.Proofs.Ythekledcoeeheaa.P

namespace Go.Proofs.Ythekledcoeeheaa.P
open Go.RowKit Go.Proofs.YthekledcoeeheaaW.PrintWords Go.Proofs.YthekledcoeeheaaW.PrintLast Go.Proofs.YthekledcoeeheaaW.PrintMore
attribute [local go_sem] max2_int min2_int max_two min_two max_three min_three max_four min_four
set_option linter.unusedVariables false
set_option linter.unusedSimpArgs false

attribute [local go_sem high] eqA35
/-! ### dragomanlaw03_alive: function 29 -/
def q17z.f (k : Nat)  : Option (Bool) := (q9z.f k 0 0 ([] : List Int) (([7, 3, 7] : List Int)) 0 0 0 0).bind fun bt4 => ((q1z.f 167838211 8).bind fun bt17 => (if (bt17.1 == 167772160 && (bt17.2 == 8)) = true then ((q16z.f k bt4.2.2.2.1 (([3, 7] : List Int))).bind fun t22 => (if t22 = true then ((q15z.f k 0 0 (([1] : List Int)) ([] : List Int) 0 0 0 0 0 0 (([1, 2] : List Int)) ([] : List Int) 0 0 0 0).bind fun t29 => (if t29 = (-1) then ((q4z.f k 0 0 ([] : List Int) ([] : List Int) 0 0 0 0).bind fun t30 => (if t30 = true then ((q4z.f k 0 0 ([] : List Int) ([] : List Int) 0 0 3 0).bind fun t31 => (some (!t31))) else (some false))) else (some false))) else (some false))) else (some false)))
theorem q17z.mono : ∀ k, LeO (q17z.f k ) (q17z.f (k + 1) ) := by
 intro  k
 unfold q17z.f
 repeat' first
   | (with_reducible exact q16z.mono _ _ _)
   | (with_reducible exact q9z.mono _ _ _ _ _ _ _ _ _)
   | (with_reducible exact q15z.mono _ _ _ _ _ _ _ _ _ _ _ _ _ _ _ _ _)
   | (with_reducible exact q4z.mono _ _ _ _ _ _ _ _ _)
   | (with_reducible exact LeO.refl _)
   | (with_reducible exact LeO.none _)
   | (with_reducible refine LeO.ite ?_ ?_)
   | (with_reducible refine LeO.bind ?_ (fun _ => ?_))
   | exact q16z.mono _ _ _
   | exact q9z.mono _ _ _ _ _ _ _ _ _
   | exact q15z.mono _ _ _ _ _ _ _ _ _ _ _ _ _ _ _ _ _
   | exact q4z.mono _ _ _ _ _ _ _ _ _
   | exact LeO.none _
   | refine LeO.ite ?_ ?_
   | refine LeO.bind ?_ (fun _ => ?_)
set_option maxHeartbeats 8000000 in
set_option maxRecDepth 100000 in
theorem q17z.calls (k : Nat)  (r : Bool) (w : World) (h : q17z.f k  = some r) :
  Calls Try.prog 29 #[] w fun e w' => e = .returned (.bool r) ∧ Below w.heap.size w w' := by
 have hu38 := Try.underlying38
 have hu35 := Try.underlying35
 have HB := Aside0.mk (Below.refl w.heap.size w)
 have H : ((q9z.f k 0 0 ([] : List Int) (([7, 3, 7] : List Int)) 0 0 0 0).bind fun bt4 => ((q1z.f 167838211 8).bind fun bt17 => (if (bt17.1 == 167772160 && (bt17.2 == 8)) = true then ((q16z.f k bt4.2.2.2.1 (([3, 7] : List Int))).bind fun t22 => (if t22 = true then ((q15z.f k 0 0 (([1] : List Int)) ([] : List Int) 0 0 0 0 0 0 (([1, 2] : List Int)) ([] : List Int) 0 0 0 0).bind fun t29 => (if t29 = (-1) then ((q4z.f k 0 0 ([] : List Int) ([] : List Int) 0 0 0 0).bind fun t30 => (if t30 = true then ((q4z.f k 0 0 ([] : List Int) ([] : List Int) 0 0 3 0).bind fun t31 => (some (!t31))) else (some false))) else (some false))) else (some false))) else (some false)))) = some r := h
 clear h
 obtain ⟨y1, hy1⟩ : ∃ y_ : List Int, y_ = (([7, 3, 7] : List Int)) := ⟨_, rfl⟩
 replace H : ((q9z.f k 0 0 ([] : List Int) y1 0 0 0 0).bind fun bt4 => ((q1z.f 167838211 8).bind fun bt17 => (if (bt17.1 == 167772160 && (bt17.2 == 8)) = true then ((q16z.f k bt4.2.2.2.1 (([3, 7] : List Int))).bind fun t22 => (if t22 = true then ((q15z.f k 0 0 (([1] : List Int)) ([] : List Int) 0 0 0 0 0 0 (([1, 2] : List Int)) ([] : List Int) 0 0 0 0).bind fun t29 => (if t29 = (-1) then ((q4z.f k 0 0 ([] : List Int) ([] : List Int) 0 0 0 0).bind fun t30 => (if t30 = true then ((q4z.f k 0 0 ([] : List Int) ([] : List Int) 0 0 3 0).bind fun t31 => (some (!t31))) else (some false))) else (some false))) else (some false))) else (some false)))) = some r := by first | (rw [hy1]; with_reducible exact H) | (have H2_ := (Option.bind_some _ _).symm.trans H; rw [hy1]; with_reducible exact H2_) | (have H2_ := (Option.bind_some _ _).symm.trans H; with_reducible exact H2_) | with_reducible exact H | (rw [hy1]; exact H) | exact H
 have Ny1 := Aside0.mk hy1
 clear hy1
 replace H := Option.bind_eq_some_iff.mp H
 obtain ⟨⟨t4, t5, t6, t9, t12, t13, t14, t15⟩, A10, H⟩ := H
 replace H : ((q1z.f 167838211 8).bind fun bt17 => (if (bt17.1 == 167772160 && (bt17.2 == 8)) = true then ((q16z.f k t9 (([3, 7] : List Int))).bind fun t22 => (if t22 = true then ((q15z.f k 0 0 (([1] : List Int)) ([] : List Int) 0 0 0 0 0 0 (([1, 2] : List Int)) ([] : List Int) 0 0 0 0).bind fun t29 => (if t29 = (-1) then ((q4z.f k 0 0 ([] : List Int) ([] : List Int) 0 0 0 0).bind fun t30 => (if t30 = true then ((q4z.f k 0 0 ([] : List Int) ([] : List Int) 0 0 3 0).bind fun t31 => (some (!t31))) else (some false))) else (some false))) else (some false))) else (some false))) = some r := H
 have A1 := Aside0.mk A10
 clear A10
 replace H := Option.bind_eq_some_iff.mp H
 obtain ⟨⟨t17, t18⟩, A20, H⟩ := H
 replace H : (if (t17 == 167772160 && (t18 == 8)) = true then ((q16z.f k t9 (([3, 7] : List Int))).bind fun t22 => (if t22 = true then ((q15z.f k 0 0 (([1] : List Int)) ([] : List Int) 0 0 0 0 0 0 (([1, 2] : List Int)) ([] : List Int) 0 0 0 0).bind fun t29 => (if t29 = (-1) then ((q4z.f k 0 0 ([] : List Int) ([] : List Int) 0 0 0 0).bind fun t30 => (if t30 = true then ((q4z.f k 0 0 ([] : List Int) ([] : List Int) 0 0 3 0).bind fun t31 => (some (!t31))) else (some false))) else (some false))) else (some false))) else (some false)) = some r := H
 have A2 := Aside0.mk A20
 clear A20
 by_cases c3 : (t17 == 167772160 && (t18 == 8)) = true
 ·
  rw [if_pos c3] at H
  have c3b0 : (t17 == 167772160 && (t18 == 8)) = true := c3
  (try (have c3b1 : decide (t17 = 167772160 && (t18 == 8)) = true := by simpa using c3))
  (try (have c3b2 : (t17 == 167772160 && (t18 == 8)) = true := by simpa using c3))
  clear c3
  obtain ⟨y19, hy19⟩ : ∃ y_ : List Int, y_ = (([3, 7] : List Int)) := ⟨_, rfl⟩
  replace H : ((q16z.f k t9 y19).bind fun t22 => (if t22 = true then ((q15z.f k 0 0 (([1] : List Int)) ([] : List Int) 0 0 0 0 0 0 (([1, 2] : List Int)) ([] : List Int) 0 0 0 0).bind fun t29 => (if t29 = (-1) then ((q4z.f k 0 0 ([] : List Int) ([] : List Int) 0 0 0 0).bind fun t30 => (if t30 = true then ((q4z.f k 0 0 ([] : List Int) ([] : List Int) 0 0 3 0).bind fun t31 => (some (!t31))) else (some false))) else (some false))) else (some false))) = some r := by first | (rw [hy19]; with_reducible exact H) | (have H2_ := (Option.bind_some _ _).symm.trans H; rw [hy19]; with_reducible exact H2_) | (have H2_ := (Option.bind_some _ _).symm.trans H; with_reducible exact H2_) | with_reducible exact H | (rw [hy19]; exact H) | exact H
  have Ny19 := Aside0.mk hy19
  clear hy19
  replace H := Option.bind_eq_some_iff.mp H
  obtain ⟨t22, A40, H⟩ := H
  replace H : (if t22 = true then ((q15z.f k 0 0 (([1] : List Int)) ([] : List Int) 0 0 0 0 0 0 (([1, 2] : List Int)) ([] : List Int) 0 0 0 0).bind fun t29 => (if t29 = (-1) then ((q4z.f k 0 0 ([] : List Int) ([] : List Int) 0 0 0 0).bind fun t30 => (if t30 = true then ((q4z.f k 0 0 ([] : List Int) ([] : List Int) 0 0 3 0).bind fun t31 => (some (!t31))) else (some false))) else (some false))) else (some false)) = some r := H
  have A4 := Aside0.mk A40
  clear A40
  by_cases c5 : t22 = true
  ·
   subst c5
   have H1 : ((q15z.f k 0 0 (([1] : List Int)) ([] : List Int) 0 0 0 0 0 0 (([1, 2] : List Int)) ([] : List Int) 0 0 0 0).bind fun t29 => (if t29 = (-1) then ((q4z.f k 0 0 ([] : List Int) ([] : List Int) 0 0 0 0).bind fun t30 => (if t30 = true then ((q4z.f k 0 0 ([] : List Int) ([] : List Int) 0 0 3 0).bind fun t31 => (some (!t31))) else (some false))) else (some false))) = some r := by rw [if_pos rfl] at H; exact H
   clear H
   have H := H1
   clear H1
   obtain ⟨y23, hy23⟩ : ∃ y_ : List Int, y_ = (([1] : List Int)) := ⟨_, rfl⟩
   replace H : ((q15z.f k 0 0 y23 ([] : List Int) 0 0 0 0 0 0 (([1, 2] : List Int)) ([] : List Int) 0 0 0 0).bind fun t29 => (if t29 = (-1) then ((q4z.f k 0 0 ([] : List Int) ([] : List Int) 0 0 0 0).bind fun t30 => (if t30 = true then ((q4z.f k 0 0 ([] : List Int) ([] : List Int) 0 0 3 0).bind fun t31 => (some (!t31))) else (some false))) else (some false))) = some r := by first | (rw [hy23]; with_reducible exact H) | (have H2_ := (Option.bind_some _ _).symm.trans H; rw [hy23]; with_reducible exact H2_) | (have H2_ := (Option.bind_some _ _).symm.trans H; with_reducible exact H2_) | with_reducible exact H | (rw [hy23]; exact H) | exact H
   have Ny23 := Aside0.mk hy23
   clear hy23
   obtain ⟨y26, hy26⟩ : ∃ y_ : List Int, y_ = (([1, 2] : List Int)) := ⟨_, rfl⟩
   replace H : ((q15z.f k 0 0 y23 ([] : List Int) 0 0 0 0 0 0 y26 ([] : List Int) 0 0 0 0).bind fun t29 => (if t29 = (-1) then ((q4z.f k 0 0 ([] : List Int) ([] : List Int) 0 0 0 0).bind fun t30 => (if t30 = true then ((q4z.f k 0 0 ([] : List Int) ([] : List Int) 0 0 3 0).bind fun t31 => (some (!t31))) else (some false))) else (some false))) = some r := by first | (rw [hy26]; with_reducible exact H) | (have H2_ := (Option.bind_some _ _).symm.trans H; rw [hy26]; with_reducible exact H2_) | (have H2_ := (Option.bind_some _ _).symm.trans H; with_reducible exact H2_) | with_reducible exact H | (rw [hy26]; exact H) | exact H
   have Ny26 := Aside0.mk hy26
   clear hy26
   replace H := Option.bind_eq_some_iff.mp H
   obtain ⟨t29, A60, H⟩ := H
   replace H : (if t29 = (-1) then ((q4z.f k 0 0 ([] : List Int) ([] : List Int) 0 0 0 0).bind fun t30 => (if t30 = true then ((q4z.f k 0 0 ([] : List Int) ([] : List Int) 0 0 3 0).bind fun t31 => (some (!t31))) else (some false))) else (some false)) = some r := H
   have A6 := Aside0.mk A60
   clear A60
   by_cases c7 : t29 = (-1)
   ·
    rw [if_pos c7] at H
    have c7b0 : (t29 == (-1)) = true := beq_iff_eq.mpr c7
    have c7b1 : (t29 != (-1)) = false := bne_eq_false_iff_eq.mpr c7
    clear c7
    replace H := Option.bind_eq_some_iff.mp H
    obtain ⟨t30, A80, H⟩ := H
    replace H : (if t30 = true then ((q4z.f k 0 0 ([] : List Int) ([] : List Int) 0 0 3 0).bind fun t31 => (some (!t31))) else (some false)) = some r := H
    have A8 := Aside0.mk A80
    clear A80
    by_cases c9 : t30 = true
    ·
     subst c9
     have H1 : ((q4z.f k 0 0 ([] : List Int) ([] : List Int) 0 0 3 0).bind fun t31 => (some (!t31))) = some r := by rw [if_pos rfl] at H; exact H
     clear H
     have H := H1
     clear H1
     replace H := Option.bind_eq_some_iff.mp H
     obtain ⟨t31, A100, H⟩ := H
     replace H : (some (!t31)) = some r := H
     have A10 := Aside0.mk A100
     clear A100
     obtain rfl := Option.some.inj H
     go_enter Try.func29, Try.ntmps29
     have tok_1 : True := trivial
     go_wp2_with (first | ((with_reducible refine gate_dst (N := 2) rfl ?_); (try (refine gate_guard (by rfl) ?_; dsimp only)); refine Kd.R_lit (Kd.int .u32) _ 33 ?hg (N := 2) ?hd (xs := ([7, 3, 7] : List Int)) (inner := [.int .u32 7, .int .u32 3, .int .u32 7]) (ok := fun _ => True) (okp := fun _ => True) ?hr ?hp (fun _ hk => hk) trivial (Below.refl _ _) (Nat.le_refl _) (by simp) ?_; (case hd => rfl); (case hg => rfl); (case hr => first | (go_simp; done) | (go_simp; rfl)); (case hp => exact (Reps.one (show Kd.M (Kd.int .u32) _ _ _ 7 [.int .u32 7] from rfl) (Reps.one (show Kd.M (Kd.int .u32) _ _ _ 3 [.int .u32 3] from rfl) (Reps.one (show Kd.M (Kd.int .u32) _ _ _ 7 [.int .u32 7] from rfl) (Reps.none _ _))))); intro v2 w11 ho12 hb hg_ hnew_; clear hg_ hnew_; (first | rw [← Ny1.out] at ho12 | (simp only [Int.reduceToNat] at ho12; rw [← Ny1.out] at ho12)); have n0_ := Aside0.mk (Kd.R_lower ho12 (below_size (by repeat (first | (with_reducible first | exact HB.out | apply below_alloc | apply pw_below_drewN | apply below_drew1) | exact HB.out)))); have n1_ := Aside0.mk (below_step (by repeat (first | (with_reducible first | exact HB.out | apply below_alloc | apply pw_below_drewN | apply below_drew1) | exact HB.out)) hb); clear HB; have HO3 := n0_; have HB := n1_; clear n0_ n1_; clear hb ho12; obtain ⟨Ao13, co13, eo13⟩ := Kd.R_slice HO3.out; subst eo13) | ((with_reducible refine gate_callee (f := 36) rfl ?_); refine goesL_ (some 4) rfl rfl Try.func36 (by kernel_rfl) rfl #[.agg #[.int .u32 0, .int .i64 0, .slice none 0 0, .slice Ao13 y1.length co13, .int .u32 0, .int .u32 0, .int .i64 0, .int .u32 0]] rfl (by (try simp only [List.map_toArray, List.map_cons, List.map_nil]); first | done | rfl | (simp only [List.length_drop, List.length_take]; rfl)) ?_; (refine (q9z.calls k 0 0 _ _ ([] : List Int) _ _ y1 0 0 0 0 t4 t5 t6 t9 t12 t13 t14 t15 _ ?side1 ?side2 ?side3 ?side4 A1.out).mono ?_); (case side1 => exact Kd.C_nil _ _); (case side2 => exact Nat.le_refl _); (case side3 => repeat (first | exact (Kd.R_reads' HO3.out).2.2 | (with_reducible refine Kd.C_alloc ?_ _) | (with_reducible refine Kd.C_drewN ?_ _) | (with_reducible refine Kd.C_drew ?_))); (case side4 => exact (Kd.R_reads' HO3.out).2.1); rintro e w14 ⟨v7, v10, rfl, ho0, ho1, hb⟩; refine ⟨_, rfl, ?_⟩; have n0_ := Aside0.mk (Kd.R_mono (Kd.R_told (Kd.R_told (Kd.R_old (by (with_reducible repeat (first | apply Kd.R_alloc | apply Kd.R_drewN | apply Kd.R_drew)); exact HO3.out) hb) (Kd.R_base ho0)) (Kd.R_base ho1)) (fun _ h_ => h_.1)); have n1_ := Aside0.mk (Kd.R_lower (Kd.R_new' ho0 (Kd.R_lt (by (with_reducible repeat (first | apply Kd.R_alloc | apply Kd.R_drewN | apply Kd.R_drew)); exact HO3.out))) (below_size (by repeat (first | (with_reducible first | exact HB.out | apply below_alloc | apply pw_below_drewN | apply below_drew1) | exact HB.out)))); have n2_ := Aside0.mk (Kd.R_lower (Kd.R_new' ho1 (Kd.R_lt (by (with_reducible repeat (first | apply Kd.R_alloc | apply Kd.R_drewN | apply Kd.R_drew)); exact HO3.out))) (below_size (by repeat (first | (with_reducible first | exact HB.out | apply below_alloc | apply pw_below_drewN | apply below_drew1) | exact HB.out)))); have n3_ := Aside0.mk (below_step (by repeat (first | (with_reducible first | exact HB.out | apply below_alloc | apply pw_below_drewN | apply below_drew1) | exact HB.out)) hb); clear HO3; clear HB; have HO3 := n0_; have HO8 := n1_; have HO11 := n2_; have HB := n3_; clear n0_ n1_ n2_ n3_; (try clear hb); (try clear hb2); (try clear hk); (try clear hi); (try clear ho0); (try clear ho1)) | ((with_reducible refine gate_dst (N := 1) rfl ?_); (try (refine gate_guard (by rfl) ?_; dsimp only)); refine box_event ?hg (N := 1) ?hd (cs := #[.int .u32 0, .int .i64 0, .slice none 0 0, .slice none 0 0, .int .u32 0, .int .u32 0, .int .i64 0, .int .u32 0]) (t := 38) ?hr ?_; (case hd => rfl); (case hg => rfl); (case hr => first | (go_simp; done) | (go_simp; rfl)); intro gb16 hg w15 hbox hb; have n0_ := Aside0.mk (Kd.R_below (by (with_reducible repeat (first | apply Kd.R_alloc | apply Kd.R_drewN | apply Kd.R_drew)); exact HO3.out) hb); have n1_ := Aside0.mk (Kd.R_below (by (with_reducible repeat (first | apply Kd.R_alloc | apply Kd.R_drewN | apply Kd.R_drew)); exact HO8.out) hb); have n2_ := Aside0.mk (Kd.R_below (by (with_reducible repeat (first | apply Kd.R_alloc | apply Kd.R_drewN | apply Kd.R_drew)); exact HO11.out) hb); have n3_ := Aside0.mk (below_step (by repeat (first | (with_reducible first | exact HB.out | apply below_alloc | apply pw_below_drewN | apply below_drew1) | exact HB.out)) hb); have n4_ := Aside0.mk (hbox); have n5_ := Aside0.mk ((by rw [hg]; exact (below_size (by repeat (first | (with_reducible first | exact HB.out | apply below_alloc | apply pw_below_drewN | apply below_drew1) | exact HB.out))) : w.heap.size ≤ gb16)); have n6_ := Aside0.mk ((by rw [hg]; exact (below_size (by repeat (first | (with_reducible first | exact HB.out | apply below_alloc | apply pw_below_drewN | apply below_drew1) | exact HB.out))) : w.heap.size ≤ gb16)); clear HO3; clear HO8; clear HO11; clear HB; have HO3 := n0_; have HO8 := n1_; have HO11 := n2_; have HB := n3_; have BK16 := n4_; have GW16 := n5_; have GE16 := n6_; clear n0_ n1_ n2_ n3_ n4_ n5_ n6_; clear hb hbox hg; have hcz16_0 : w15.cell? ⟨gb16, 0, none⟩ = some (.int .u32 0) := (blk_cell BK16.out 0).trans rfl; have hcz16_1 : w15.cell? ⟨gb16, 1, none⟩ = some (.int .i64 0) := (blk_cell BK16.out 1).trans rfl; have hcz16_2 : w15.cell? ⟨gb16, 2, none⟩ = some (.slice none 0 0) := (blk_cell BK16.out 2).trans rfl; have hcz16_3 : w15.cell? ⟨gb16, 3, none⟩ = some (.slice none 0 0) := (blk_cell BK16.out 3).trans rfl; have hcz16_4 : w15.cell? ⟨gb16, 4, none⟩ = some (.int .u32 0) := (blk_cell BK16.out 4).trans rfl; have hcz16_5 : w15.cell? ⟨gb16, 5, none⟩ = some (.int .u32 0) := (blk_cell BK16.out 5).trans rfl; have hcz16_6 : w15.cell? ⟨gb16, 6, none⟩ = some (.int .i64 0) := (blk_cell BK16.out 6).trans rfl; have hcz16_7 : w15.cell? ⟨gb16, 7, none⟩ = some (.int .u32 0) := (blk_cell BK16.out 7).trans rfl; have hfz16_0 := blk_frozen BK16.out 0; have hfz16_1 := blk_frozen BK16.out 1; have hfz16_2 := blk_frozen BK16.out 2; have hfz16_3 := blk_frozen BK16.out 3; have hfz16_4 := blk_frozen BK16.out 4; have hfz16_5 := blk_frozen BK16.out 5; have hfz16_6 := blk_frozen BK16.out 6; have hfz16_7 := blk_frozen BK16.out 7; obtain ⟨Ao17, co17, eo17⟩ := Kd.R_slice HO8.out; subst eo17; obtain ⟨Ao18, co18, eo18⟩ := Kd.R_slice HO11.out; subst eo18) | ((with_reducible refine gate_callee (f := 32) rfl ?_); refine goesL_ (some 6) rfl rfl Try.func32 (by kernel_rfl) rfl #[.agg #[.int .u32 167838211, .int .i64 8]] rfl (by (try simp only [List.map_toArray, List.map_cons, List.map_nil]); first | done | rfl | (simp only [List.length_drop, List.length_take]; rfl)) ?_; (with_reducible refine (q1z.calls 167838211 8 t17 t18 _ A2.out).mono ?_); rintro e w19 ⟨rfl, hb⟩; refine ⟨_, rfl, ?_⟩; have n0_ := Aside0.mk (Kd.R_below (by (with_reducible repeat (first | apply Kd.R_alloc | apply Kd.R_drewN | apply Kd.R_drew)); exact (Kd.R_mono (Kd.R_far (p := ⟨gb16, 7, none⟩) (Kd.R_far (p := ⟨gb16, 6, none⟩) (Kd.R_far (p := ⟨gb16, 5, none⟩) (Kd.R_far (p := ⟨gb16, 4, none⟩) (Kd.R_far (p := ⟨gb16, 3, none⟩) (Kd.R_far (p := ⟨gb16, 2, none⟩) (Kd.R_far (p := ⟨gb16, 1, none⟩) (Kd.R_far (p := ⟨gb16, 0, none⟩) (Kd.R_types HO3.out BK16.out (by decide)) (fun _ hk => hk.2) (.int .u32 t4)) (fun _ hk => hk.2) (.int .i64 t5)) (fun _ hk => hk.2) (.slice Ao17 t6.length co17)) (fun _ hk => hk.2) (.slice Ao18 t9.length co18)) (fun _ hk => hk.2) (.int .u32 t12)) (fun _ hk => hk.2) (.int .u32 t13)) (fun _ hk => hk.2) (.int .i64 t14)) (fun _ hk => hk.2) (.int .u32 t15)) (fun _ h_ => h_.1))) hb); have n1_ := Aside0.mk (Kd.R_below (by (with_reducible repeat (first | apply Kd.R_alloc | apply Kd.R_drewN | apply Kd.R_drew)); exact (Kd.R_mono (Kd.R_far (p := ⟨gb16, 7, none⟩) (Kd.R_far (p := ⟨gb16, 6, none⟩) (Kd.R_far (p := ⟨gb16, 5, none⟩) (Kd.R_far (p := ⟨gb16, 4, none⟩) (Kd.R_far (p := ⟨gb16, 3, none⟩) (Kd.R_far (p := ⟨gb16, 2, none⟩) (Kd.R_far (p := ⟨gb16, 1, none⟩) (Kd.R_far (p := ⟨gb16, 0, none⟩) (Kd.R_types HO8.out BK16.out (by decide)) (fun _ hk => hk.2) (.int .u32 t4)) (fun _ hk => hk.2) (.int .i64 t5)) (fun _ hk => hk.2) (.slice Ao17 t6.length co17)) (fun _ hk => hk.2) (.slice Ao18 t9.length co18)) (fun _ hk => hk.2) (.int .u32 t12)) (fun _ hk => hk.2) (.int .u32 t13)) (fun _ hk => hk.2) (.int .i64 t14)) (fun _ hk => hk.2) (.int .u32 t15)) (fun _ h_ => h_.1))) hb); have n2_ := Aside0.mk (Kd.R_below (by (with_reducible repeat (first | apply Kd.R_alloc | apply Kd.R_drewN | apply Kd.R_drew)); exact (Kd.R_mono (Kd.R_far (p := ⟨gb16, 7, none⟩) (Kd.R_far (p := ⟨gb16, 6, none⟩) (Kd.R_far (p := ⟨gb16, 5, none⟩) (Kd.R_far (p := ⟨gb16, 4, none⟩) (Kd.R_far (p := ⟨gb16, 3, none⟩) (Kd.R_far (p := ⟨gb16, 2, none⟩) (Kd.R_far (p := ⟨gb16, 1, none⟩) (Kd.R_far (p := ⟨gb16, 0, none⟩) (Kd.R_types HO11.out BK16.out (by decide)) (fun _ hk => hk.2) (.int .u32 t4)) (fun _ hk => hk.2) (.int .i64 t5)) (fun _ hk => hk.2) (.slice Ao17 t6.length co17)) (fun _ hk => hk.2) (.slice Ao18 t9.length co18)) (fun _ hk => hk.2) (.int .u32 t12)) (fun _ hk => hk.2) (.int .u32 t13)) (fun _ hk => hk.2) (.int .i64 t14)) (fun _ hk => hk.2) (.int .u32 t15)) (fun _ h_ => h_.1))) hb); have n3_ := Aside0.mk (blk_below (g := gb16) (o := .cells #[.int .u32 t4, .int .i64 t5, .slice Ao17 t6.length co17, .slice Ao18 t9.length co18, .int .u32 t12, .int .u32 t13, .int .i64 t14, .int .u32 t15] 38 (0, 0)) (by (with_reducible repeat (first | refine blk_drewN ?_ _ | refine blk_drew ?_ | refine blk_alloc ?_ _)); refine blk_put (cs := #[.int .u32 t4, .int .i64 t5, .slice Ao17 t6.length co17, .slice Ao18 t9.length co18, .int .u32 t12, .int .u32 t13, .int .i64 t14, .int .u32 0]) ?_ 7 _ rfl; (with_reducible repeat (first | refine blk_drewN ?_ _ | refine blk_drew ?_ | refine blk_alloc ?_ _)); refine blk_put (cs := #[.int .u32 t4, .int .i64 t5, .slice Ao17 t6.length co17, .slice Ao18 t9.length co18, .int .u32 t12, .int .u32 t13, .int .i64 0, .int .u32 0]) ?_ 6 _ rfl; (with_reducible repeat (first | refine blk_drewN ?_ _ | refine blk_drew ?_ | refine blk_alloc ?_ _)); refine blk_put (cs := #[.int .u32 t4, .int .i64 t5, .slice Ao17 t6.length co17, .slice Ao18 t9.length co18, .int .u32 t12, .int .u32 0, .int .i64 0, .int .u32 0]) ?_ 5 _ rfl; (with_reducible repeat (first | refine blk_drewN ?_ _ | refine blk_drew ?_ | refine blk_alloc ?_ _)); refine blk_put (cs := #[.int .u32 t4, .int .i64 t5, .slice Ao17 t6.length co17, .slice Ao18 t9.length co18, .int .u32 0, .int .u32 0, .int .i64 0, .int .u32 0]) ?_ 4 _ rfl; (with_reducible repeat (first | refine blk_drewN ?_ _ | refine blk_drew ?_ | refine blk_alloc ?_ _)); refine blk_put (cs := #[.int .u32 t4, .int .i64 t5, .slice Ao17 t6.length co17, .slice none 0 0, .int .u32 0, .int .u32 0, .int .i64 0, .int .u32 0]) ?_ 3 _ rfl; (with_reducible repeat (first | refine blk_drewN ?_ _ | refine blk_drew ?_ | refine blk_alloc ?_ _)); refine blk_put (cs := #[.int .u32 t4, .int .i64 t5, .slice none 0 0, .slice none 0 0, .int .u32 0, .int .u32 0, .int .i64 0, .int .u32 0]) ?_ 2 _ rfl; (with_reducible repeat (first | refine blk_drewN ?_ _ | refine blk_drew ?_ | refine blk_alloc ?_ _)); refine blk_put (cs := #[.int .u32 t4, .int .i64 0, .slice none 0 0, .slice none 0 0, .int .u32 0, .int .u32 0, .int .i64 0, .int .u32 0]) ?_ 1 _ rfl; (with_reducible repeat (first | refine blk_drewN ?_ _ | refine blk_drew ?_ | refine blk_alloc ?_ _)); refine blk_put (cs := #[.int .u32 0, .int .i64 0, .slice none 0 0, .slice none 0 0, .int .u32 0, .int .u32 0, .int .i64 0, .int .u32 0]) ?_ 0 _ rfl; (with_reducible repeat (first | refine blk_drewN ?_ _ | refine blk_drew ?_ | refine blk_alloc ?_ _)); exact BK16.out) hb); have n4_ := Aside0.mk (below_step (by repeat (first | (with_reducible first | exact HB.out | apply below_alloc | apply pw_below_drewN | apply below_drew1 | refine below_set ?_ GE16.out) | exact HB.out)) hb); clear HO3; clear HO8; clear HO11; clear BK16; clear HB; have HO3 := n0_; have HO8 := n1_; have HO11 := n2_; have BK16 := n3_; have HB := n4_; clear n0_ n1_ n2_ n3_ n4_; (try clear hb); (try clear hb2); (try clear hk); (try clear hi); have hcz20_0 : w19.cell? ⟨gb16, 0, none⟩ = some (.int .u32 t4) := (blk_cell BK16.out 0).trans rfl; have hcz20_1 : w19.cell? ⟨gb16, 1, none⟩ = some (.int .i64 t5) := (blk_cell BK16.out 1).trans rfl; have hcz20_2 : w19.cell? ⟨gb16, 2, none⟩ = some (.slice Ao17 t6.length co17) := (blk_cell BK16.out 2).trans rfl; have hcz20_3 : w19.cell? ⟨gb16, 3, none⟩ = some (.slice Ao18 t9.length co18) := (blk_cell BK16.out 3).trans rfl; have hcz20_4 : w19.cell? ⟨gb16, 4, none⟩ = some (.int .u32 t12) := (blk_cell BK16.out 4).trans rfl; have hcz20_5 : w19.cell? ⟨gb16, 5, none⟩ = some (.int .u32 t13) := (blk_cell BK16.out 5).trans rfl; have hcz20_6 : w19.cell? ⟨gb16, 6, none⟩ = some (.int .i64 t14) := (blk_cell BK16.out 6).trans rfl; have hcz20_7 : w19.cell? ⟨gb16, 7, none⟩ = some (.int .u32 t15) := (blk_cell BK16.out 7).trans rfl; have hfz20_0 := blk_frozen BK16.out 0; have hfz20_1 := blk_frozen BK16.out 1; have hfz20_2 := blk_frozen BK16.out 2; have hfz20_3 := blk_frozen BK16.out 3; have hfz20_4 := blk_frozen BK16.out 4; have hfz20_5 := blk_frozen BK16.out 5; have hfz20_6 := blk_frozen BK16.out 6; have hfz20_7 := blk_frozen BK16.out 7) | ((with_reducible refine gate_dst (N := 12) rfl ?_); (try (refine gate_guard (by rfl) ?_; dsimp only)); refine Kd.R_lit (Kd.int .u32) _ 33 ?hg (N := 12) ?hd (xs := ([3, 7] : List Int)) (inner := [.int .u32 3, .int .u32 7]) (ok := fun _ => True) (okp := fun _ => True) ?hr ?hp (fun _ hk => hk) trivial (Below.refl _ _) (Nat.le_refl _) (by simp) ?_; (case hd => rfl); (case hg => rfl); (case hr => first | (go_simp; done) | (go_simp; rfl)); (case hp => exact (Reps.one (show Kd.M (Kd.int .u32) _ _ _ 3 [.int .u32 3] from rfl) (Reps.one (show Kd.M (Kd.int .u32) _ _ _ 7 [.int .u32 7] from rfl) (Reps.none _ _)))); intro v20 w21 ho22 hb hg_ hnew_; clear hg_ hnew_; (first | rw [← Ny19.out] at ho22 | (simp only [Int.reduceToNat] at ho22; rw [← Ny19.out] at ho22)); have n0_ := Aside0.mk (Kd.R_elder' (by (with_reducible repeat (first | apply Kd.R_alloc | apply Kd.R_drewN | apply Kd.R_drew)); exact HO3.out) (Kd.R_base ho22) hb); have n1_ := Aside0.mk (Kd.R_elder' (by (with_reducible repeat (first | apply Kd.R_alloc | apply Kd.R_drewN | apply Kd.R_drew)); exact HO8.out) (Kd.R_base ho22) hb); have n2_ := Aside0.mk (Kd.R_elder' (by (with_reducible repeat (first | apply Kd.R_alloc | apply Kd.R_drewN | apply Kd.R_drew)); exact HO11.out) (Kd.R_base ho22) hb); have n3_ := Aside0.mk (Kd.R_lower (Kd.R_new' (Kd.R_new' (Kd.R_new' ho22 (Kd.R_lt (by (with_reducible repeat (first | apply Kd.R_alloc | apply Kd.R_drewN | apply Kd.R_drew)); exact HO3.out))) (Kd.R_lt (by (with_reducible repeat (first | apply Kd.R_alloc | apply Kd.R_drewN | apply Kd.R_drew)); exact HO8.out))) (Kd.R_lt (by (with_reducible repeat (first | apply Kd.R_alloc | apply Kd.R_drewN | apply Kd.R_drew)); exact HO11.out))) (below_size (by repeat (first | (with_reducible first | exact HB.out | apply below_alloc | apply pw_below_drewN | apply below_drew1 | refine below_set ?_ GE16.out) | exact HB.out)))); have n4_ := Aside0.mk (blk_below (g := gb16) (o := .cells #[.int .u32 t4, .int .i64 t5, .slice Ao17 t6.length co17, .slice Ao18 t9.length co18, .int .u32 t12, .int .u32 t13, .int .i64 t14, .int .u32 t15] 38 (0, 0)) (by (with_reducible repeat (first | refine blk_drewN ?_ _ | refine blk_drew ?_ | refine blk_alloc ?_ _)); exact BK16.out) hb); have n5_ := Aside0.mk (below_step (by repeat (first | (with_reducible first | exact HB.out | apply below_alloc | apply pw_below_drewN | apply below_drew1 | refine below_set ?_ GE16.out) | exact HB.out)) hb); clear HO3; clear HO8; clear HO11; clear BK16; clear HB; have HO3 := n0_; have HO8 := n1_; have HO11 := n2_; have HO21 := n3_; have BK16 := n4_; have HB := n5_; clear n0_ n1_ n2_ n3_ n4_ n5_; clear hb ho22; obtain ⟨Ao23, co23, eo23⟩ := Kd.R_slice HO21.out; subst eo23) | (go_at_call 55; (with_reducible refine (q16z.calls k _ _ t9 _ _ y19 true _ ?side1 ?side2 ?side3 ?side4 A4.out).mono ?_); (case side1 => repeat (first | exact (Kd.R_reads' HO11.out).2.2 | (with_reducible refine Kd.C_alloc ?_ _) | (with_reducible refine Kd.C_drewN ?_ _) | (with_reducible refine Kd.C_drew ?_))); (case side2 => exact (Kd.R_reads' HO11.out).2.1); (case side3 => repeat (first | exact (Kd.R_reads' HO21.out).2.2 | (with_reducible refine Kd.C_alloc ?_ _) | (with_reducible refine Kd.C_drewN ?_ _) | (with_reducible refine Kd.C_drew ?_))); (case side4 => exact (Kd.R_reads' HO21.out).2.1); rintro e w' ⟨rfl, ⟨nd, rfl⟩⟩) | ((with_reducible refine gate_dst (N := 16) rfl ?_); (try (refine gate_guard (by rfl) ?_; dsimp only)); refine Kd.R_lit (Kd.int .u32) _ 33 ?hg (N := 16) ?hd (xs := ([1] : List Int)) (inner := [.int .u32 1]) (ok := fun _ => True) (okp := fun _ => True) ?hr ?hp (fun _ hk => hk) trivial (Below.refl _ _) (Nat.le_refl _) (by simp) ?_; (case hd => rfl); (case hg => rfl); (case hr => first | (go_simp; done) | (go_simp; rfl)); (case hp => exact (Reps.one (show Kd.M (Kd.int .u32) _ _ _ 1 [.int .u32 1] from rfl) (Reps.none _ _))); intro v24 w24 ho25 hb hg_ hnew_; clear hg_ hnew_; (first | rw [← Ny23.out] at ho25 | (simp only [Int.reduceToNat] at ho25; rw [← Ny23.out] at ho25)); have n0_ := Aside0.mk (Kd.R_elder' (by (with_reducible repeat (first | apply Kd.R_alloc | apply Kd.R_drewN | apply Kd.R_drew)); exact HO3.out) (Kd.R_base ho25) hb); have n1_ := Aside0.mk (Kd.R_elder' (by (with_reducible repeat (first | apply Kd.R_alloc | apply Kd.R_drewN | apply Kd.R_drew)); exact HO8.out) (Kd.R_base ho25) hb); have n2_ := Aside0.mk (Kd.R_elder' (by (with_reducible repeat (first | apply Kd.R_alloc | apply Kd.R_drewN | apply Kd.R_drew)); exact HO11.out) (Kd.R_base ho25) hb); have n3_ := Aside0.mk (Kd.R_elder' (by (with_reducible repeat (first | apply Kd.R_alloc | apply Kd.R_drewN | apply Kd.R_drew)); exact HO21.out) (Kd.R_base ho25) hb); have n4_ := Aside0.mk (Kd.R_lower (Kd.R_new' (Kd.R_new' (Kd.R_new' (Kd.R_new' ho25 (Kd.R_lt (by (with_reducible repeat (first | apply Kd.R_alloc | apply Kd.R_drewN | apply Kd.R_drew)); exact HO3.out))) (Kd.R_lt (by (with_reducible repeat (first | apply Kd.R_alloc | apply Kd.R_drewN | apply Kd.R_drew)); exact HO8.out))) (Kd.R_lt (by (with_reducible repeat (first | apply Kd.R_alloc | apply Kd.R_drewN | apply Kd.R_drew)); exact HO11.out))) (Kd.R_lt (by (with_reducible repeat (first | apply Kd.R_alloc | apply Kd.R_drewN | apply Kd.R_drew)); exact HO21.out))) (below_size (by repeat (first | (with_reducible first | exact HB.out | apply below_alloc | apply pw_below_drewN | apply below_drew1 | refine below_set ?_ GE16.out) | exact HB.out)))); have n5_ := Aside0.mk (blk_below (g := gb16) (o := .cells #[.int .u32 t4, .int .i64 t5, .slice Ao17 t6.length co17, .slice Ao18 t9.length co18, .int .u32 t12, .int .u32 t13, .int .i64 t14, .int .u32 t15] 38 (0, 0)) (by (with_reducible repeat (first | refine blk_drewN ?_ _ | refine blk_drew ?_ | refine blk_alloc ?_ _)); exact BK16.out) hb); have n6_ := Aside0.mk (below_step (by repeat (first | (with_reducible first | exact HB.out | apply below_alloc | apply pw_below_drewN | apply below_drew1 | refine below_set ?_ GE16.out) | exact HB.out)) hb); clear HO3; clear HO8; clear HO11; clear HO21; clear BK16; clear HB; have HO3 := n0_; have HO8 := n1_; have HO11 := n2_; have HO21 := n3_; have HO25 := n4_; have BK16 := n5_; have HB := n6_; clear n0_ n1_ n2_ n3_ n4_ n5_ n6_; clear hb ho25; obtain ⟨Ao26, co26, eo26⟩ := Kd.R_slice HO25.out; subst eo26) | ((with_reducible refine gate_dst (N := 18) rfl ?_); (try (refine gate_guard (by rfl) ?_; dsimp only)); refine Kd.R_lit (Kd.int .u32) _ 33 ?hg (N := 18) ?hd (xs := ([1, 2] : List Int)) (inner := [.int .u32 1, .int .u32 2]) (ok := fun _ => True) (okp := fun _ => True) ?hr ?hp (fun _ hk => hk) trivial (Below.refl _ _) (Nat.le_refl _) (by simp) ?_; (case hd => rfl); (case hg => rfl); (case hr => first | (go_simp; done) | (go_simp; rfl)); (case hp => exact (Reps.one (show Kd.M (Kd.int .u32) _ _ _ 1 [.int .u32 1] from rfl) (Reps.one (show Kd.M (Kd.int .u32) _ _ _ 2 [.int .u32 2] from rfl) (Reps.none _ _)))); intro v27 w27 ho28 hb hg_ hnew_; clear hg_ hnew_; (first | rw [← Ny26.out] at ho28 | (simp only [Int.reduceToNat] at ho28; rw [← Ny26.out] at ho28)); have n0_ := Aside0.mk (Kd.R_elder' (by (with_reducible repeat (first | apply Kd.R_alloc | apply Kd.R_drewN | apply Kd.R_drew)); exact HO3.out) (Kd.R_base ho28) hb); have n1_ := Aside0.mk (Kd.R_elder' (by (with_reducible repeat (first | apply Kd.R_alloc | apply Kd.R_drewN | apply Kd.R_drew)); exact HO8.out) (Kd.R_base ho28) hb); have n2_ := Aside0.mk (Kd.R_elder' (by (with_reducible repeat (first | apply Kd.R_alloc | apply Kd.R_drewN | apply Kd.R_drew)); exact HO11.out) (Kd.R_base ho28) hb); have n3_ := Aside0.mk (Kd.R_elder' (by (with_reducible repeat (first | apply Kd.R_alloc | apply Kd.R_drewN | apply Kd.R_drew)); exact HO21.out) (Kd.R_base ho28) hb); have n4_ := Aside0.mk (Kd.R_elder' (by (with_reducible repeat (first | apply Kd.R_alloc | apply Kd.R_drewN | apply Kd.R_drew)); exact HO25.out) (Kd.R_base ho28) hb); have n5_ := Aside0.mk (Kd.R_lower (Kd.R_new' (Kd.R_new' (Kd.R_new' (Kd.R_new' (Kd.R_new' ho28 (Kd.R_lt (by (with_reducible repeat (first | apply Kd.R_alloc | apply Kd.R_drewN | apply Kd.R_drew)); exact HO3.out))) (Kd.R_lt (by (with_reducible repeat (first | apply Kd.R_alloc | apply Kd.R_drewN | apply Kd.R_drew)); exact HO8.out))) (Kd.R_lt (by (with_reducible repeat (first | apply Kd.R_alloc | apply Kd.R_drewN | apply Kd.R_drew)); exact HO11.out))) (Kd.R_lt (by (with_reducible repeat (first | apply Kd.R_alloc | apply Kd.R_drewN | apply Kd.R_drew)); exact HO21.out))) (Kd.R_lt (by (with_reducible repeat (first | apply Kd.R_alloc | apply Kd.R_drewN | apply Kd.R_drew)); exact HO25.out))) (below_size (by repeat (first | (with_reducible first | exact HB.out | apply below_alloc | apply pw_below_drewN | apply below_drew1 | refine below_set ?_ GE16.out) | exact HB.out)))); have n6_ := Aside0.mk (blk_below (g := gb16) (o := .cells #[.int .u32 t4, .int .i64 t5, .slice Ao17 t6.length co17, .slice Ao18 t9.length co18, .int .u32 t12, .int .u32 t13, .int .i64 t14, .int .u32 t15] 38 (0, 0)) (by (with_reducible repeat (first | refine blk_drewN ?_ _ | refine blk_drew ?_ | refine blk_alloc ?_ _)); exact BK16.out) hb); have n7_ := Aside0.mk (below_step (by repeat (first | (with_reducible first | exact HB.out | apply below_alloc | apply pw_below_drewN | apply below_drew1 | refine below_set ?_ GE16.out) | exact HB.out)) hb); clear HO3; clear HO8; clear HO11; clear HO21; clear HO25; clear BK16; clear HB; have HO3 := n0_; have HO8 := n1_; have HO11 := n2_; have HO21 := n3_; have HO25 := n4_; have HO28 := n5_; have BK16 := n6_; have HB := n7_; clear n0_ n1_ n2_ n3_ n4_ n5_ n6_ n7_; clear hb ho28; obtain ⟨Ao29, co29, eo29⟩ := Kd.R_slice HO28.out; subst eo29) | (go_at_call 40; (refine (q15z.calls k 0 0 _ _ y23 _ _ ([] : List Int) 0 0 0 0 0 0 _ _ y26 _ _ ([] : List Int) 0 0 0 0 t29 _ ?side1 ?side2 ?side3 ?side4 ?side5 ?side6 ?side7 ?side8 A6.out).mono ?_); (case side1 => repeat (first | exact (Kd.R_reads' HO25.out).2.2 | (with_reducible refine Kd.C_alloc ?_ _) | (with_reducible refine Kd.C_drewN ?_ _) | (with_reducible refine Kd.C_drew ?_))); (case side2 => exact (Kd.R_reads' HO25.out).2.1); (case side3 => exact Kd.C_nil _ _); (case side4 => exact Nat.le_refl _); (case side5 => repeat (first | exact (Kd.R_reads' HO28.out).2.2 | (with_reducible refine Kd.C_alloc ?_ _) | (with_reducible refine Kd.C_drewN ?_ _) | (with_reducible refine Kd.C_drew ?_))); (case side6 => exact (Kd.R_reads' HO28.out).2.1); (case side7 => exact Kd.C_nil _ _); (case side8 => exact Nat.le_refl _); rintro e w30 ⟨rfl, hb⟩; have n0_ := Aside0.mk (Kd.R_below (by (with_reducible repeat (first | apply Kd.R_alloc | apply Kd.R_drewN | apply Kd.R_drew)); exact HO3.out) hb); have n1_ := Aside0.mk (Kd.R_below (by (with_reducible repeat (first | apply Kd.R_alloc | apply Kd.R_drewN | apply Kd.R_drew)); exact HO8.out) hb); have n2_ := Aside0.mk (Kd.R_below (by (with_reducible repeat (first | apply Kd.R_alloc | apply Kd.R_drewN | apply Kd.R_drew)); exact HO11.out) hb); have n3_ := Aside0.mk (Kd.R_below (by (with_reducible repeat (first | apply Kd.R_alloc | apply Kd.R_drewN | apply Kd.R_drew)); exact HO21.out) hb); have n4_ := Aside0.mk (Kd.R_below (by (with_reducible repeat (first | apply Kd.R_alloc | apply Kd.R_drewN | apply Kd.R_drew)); exact HO25.out) hb); have n5_ := Aside0.mk (Kd.R_below (by (with_reducible repeat (first | apply Kd.R_alloc | apply Kd.R_drewN | apply Kd.R_drew)); exact HO28.out) hb); have n6_ := Aside0.mk (blk_below (g := gb16) (o := .cells #[.int .u32 t4, .int .i64 t5, .slice Ao17 t6.length co17, .slice Ao18 t9.length co18, .int .u32 t12, .int .u32 t13, .int .i64 t14, .int .u32 t15] 38 (0, 0)) (by (with_reducible repeat (first | refine blk_drewN ?_ _ | refine blk_drew ?_ | refine blk_alloc ?_ _)); exact BK16.out) hb); have n7_ := Aside0.mk (below_step (by repeat (first | (with_reducible first | exact HB.out | apply below_alloc | apply pw_below_drewN | apply below_drew1 | refine below_set ?_ GE16.out) | exact HB.out)) hb); clear HO3; clear HO8; clear HO11; clear HO21; clear HO25; clear HO28; clear BK16; clear HB; have HO3 := n0_; have HO8 := n1_; have HO11 := n2_; have HO21 := n3_; have HO25 := n4_; have HO28 := n5_; have BK16 := n6_; have HB := n7_; clear n0_ n1_ n2_ n3_ n4_ n5_ n6_ n7_; (try clear hb); (try clear hb2); (try clear hk); (try clear hi)) | (go_at_call 30; have _t := tok_1; (refine (q4z.calls k 0 0 _ _ ([] : List Int) _ _ ([] : List Int) 0 0 0 0 true _ ?side1 ?side2 ?side3 ?side4 A8.out).mono ?_); (case side1 => exact Kd.C_nil _ _); (case side2 => exact Nat.le_refl _); (case side3 => exact Kd.C_nil _ _); (case side4 => exact Nat.le_refl _); rintro e w31 ⟨rfl, hb⟩; have n0_ := Aside0.mk (Kd.R_below (by (with_reducible repeat (first | apply Kd.R_alloc | apply Kd.R_drewN | apply Kd.R_drew)); exact HO3.out) hb); have n1_ := Aside0.mk (Kd.R_below (by (with_reducible repeat (first | apply Kd.R_alloc | apply Kd.R_drewN | apply Kd.R_drew)); exact HO8.out) hb); have n2_ := Aside0.mk (Kd.R_below (by (with_reducible repeat (first | apply Kd.R_alloc | apply Kd.R_drewN | apply Kd.R_drew)); exact HO11.out) hb); have n3_ := Aside0.mk (Kd.R_below (by (with_reducible repeat (first | apply Kd.R_alloc | apply Kd.R_drewN | apply Kd.R_drew)); exact HO21.out) hb); have n4_ := Aside0.mk (Kd.R_below (by (with_reducible repeat (first | apply Kd.R_alloc | apply Kd.R_drewN | apply Kd.R_drew)); exact HO25.out) hb); have n5_ := Aside0.mk (Kd.R_below (by (with_reducible repeat (first | apply Kd.R_alloc | apply Kd.R_drewN | apply Kd.R_drew)); exact HO28.out) hb); have n6_ := Aside0.mk (blk_below (g := gb16) (o := .cells #[.int .u32 t4, .int .i64 t5, .slice Ao17 t6.length co17, .slice Ao18 t9.length co18, .int .u32 t12, .int .u32 t13, .int .i64 t14, .int .u32 t15] 38 (0, 0)) (by (with_reducible repeat (first | refine blk_drewN ?_ _ | refine blk_drew ?_ | refine blk_alloc ?_ _)); exact BK16.out) hb); have n7_ := Aside0.mk (below_step (by repeat (first | (with_reducible first | exact HB.out | apply below_alloc | apply pw_below_drewN | apply below_drew1 | refine below_set ?_ GE16.out) | exact HB.out)) hb); clear HO3; clear HO8; clear HO11; clear HO21; clear HO25; clear HO28; clear BK16; clear HB; have HO3 := n0_; have HO8 := n1_; have HO11 := n2_; have HO21 := n3_; have HO25 := n4_; have HO28 := n5_; have BK16 := n6_; have HB := n7_; clear n0_ n1_ n2_ n3_ n4_ n5_ n6_ n7_; (try clear hb); (try clear hb2); (try clear hk); (try clear hi); clear tok_1) | (go_at_call 30; (refine (q4z.calls k 0 0 _ _ ([] : List Int) _ _ ([] : List Int) 0 0 3 0 t31 _ ?side1 ?side2 ?side3 ?side4 A10.out).mono ?_); (case side1 => exact Kd.C_nil _ _); (case side2 => exact Nat.le_refl _); (case side3 => exact Kd.C_nil _ _); (case side4 => exact Nat.le_refl _); rintro e w32 ⟨rfl, hb⟩; have n0_ := Aside0.mk (Kd.R_below (by (with_reducible repeat (first | apply Kd.R_alloc | apply Kd.R_drewN | apply Kd.R_drew)); exact HO3.out) hb); have n1_ := Aside0.mk (Kd.R_below (by (with_reducible repeat (first | apply Kd.R_alloc | apply Kd.R_drewN | apply Kd.R_drew)); exact HO8.out) hb); have n2_ := Aside0.mk (Kd.R_below (by (with_reducible repeat (first | apply Kd.R_alloc | apply Kd.R_drewN | apply Kd.R_drew)); exact HO11.out) hb); have n3_ := Aside0.mk (Kd.R_below (by (with_reducible repeat (first | apply Kd.R_alloc | apply Kd.R_drewN | apply Kd.R_drew)); exact HO21.out) hb); have n4_ := Aside0.mk (Kd.R_below (by (with_reducible repeat (first | apply Kd.R_alloc | apply Kd.R_drewN | apply Kd.R_drew)); exact HO25.out) hb); have n5_ := Aside0.mk (Kd.R_below (by (with_reducible repeat (first | apply Kd.R_alloc | apply Kd.R_drewN | apply Kd.R_drew)); exact HO28.out) hb); have n6_ := Aside0.mk (blk_below (g := gb16) (o := .cells #[.int .u32 t4, .int .i64 t5, .slice Ao17 t6.length co17, .slice Ao18 t9.length co18, .int .u32 t12, .int .u32 t13, .int .i64 t14, .int .u32 t15] 38 (0, 0)) (by (with_reducible repeat (first | refine blk_drewN ?_ _ | refine blk_drew ?_ | refine blk_alloc ?_ _)); exact BK16.out) hb); have n7_ := Aside0.mk (below_step (by repeat (first | (with_reducible first | exact HB.out | apply below_alloc | apply pw_below_drewN | apply below_drew1 | refine below_set ?_ GE16.out) | exact HB.out)) hb); clear HO3; clear HO8; clear HO11; clear HO21; clear HO25; clear HO28; clear BK16; clear HB; have HO3 := n0_; have HO8 := n1_; have HO11 := n2_; have HO21 := n3_; have HO25 := n4_; have HO28 := n5_; have BK16 := n6_; have HB := n7_; clear n0_ n1_ n2_ n3_ n4_ n5_ n6_ n7_; (try clear hb); (try clear hb2); (try clear hk); (try clear hi)))
     go_ret
     exact ⟨by first | rfl | (simp [errW_none, errW_some] <;> rfl) | (simp [*, errW_none, errW_some] <;> rfl), by repeat (first | (with_reducible first | exact HB.out | apply below_alloc | apply pw_below_drewN | apply below_drew1 | refine below_set ?_ GE16.out) | exact HB.out)⟩
    ·
     replace c9 := Bool.eq_false_iff.mpr c9
     subst c9
     have H1 : (some false) = some r := by rw [if_neg (show ¬ (false = true) by decide)] at H; exact H
     clear H
     have H := H1
     clear H1
     obtain rfl := Option.some.inj H
     go_enter Try.func29, Try.ntmps29
     go_wp2_with (first | ((with_reducible refine gate_dst (N := 2) rfl ?_); (try (refine gate_guard (by rfl) ?_; dsimp only)); refine Kd.R_lit (Kd.int .u32) _ 33 ?hg (N := 2) ?hd (xs := ([7, 3, 7] : List Int)) (inner := [.int .u32 7, .int .u32 3, .int .u32 7]) (ok := fun _ => True) (okp := fun _ => True) ?hr ?hp (fun _ hk => hk) trivial (Below.refl _ _) (Nat.le_refl _) (by simp) ?_; (case hd => rfl); (case hg => rfl); (case hr => first | (go_simp; done) | (go_simp; rfl)); (case hp => exact (Reps.one (show Kd.M (Kd.int .u32) _ _ _ 7 [.int .u32 7] from rfl) (Reps.one (show Kd.M (Kd.int .u32) _ _ _ 3 [.int .u32 3] from rfl) (Reps.one (show Kd.M (Kd.int .u32) _ _ _ 7 [.int .u32 7] from rfl) (Reps.none _ _))))); intro v2 w33 ho34 hb hg_ hnew_; clear hg_ hnew_; (first | rw [← Ny1.out] at ho34 | (simp only [Int.reduceToNat] at ho34; rw [← Ny1.out] at ho34)); have n0_ := Aside0.mk (Kd.R_lower ho34 (below_size (by repeat (first | (with_reducible first | exact HB.out | apply below_alloc | apply pw_below_drewN | apply below_drew1) | exact HB.out)))); have n1_ := Aside0.mk (below_step (by repeat (first | (with_reducible first | exact HB.out | apply below_alloc | apply pw_below_drewN | apply below_drew1) | exact HB.out)) hb); clear HB; have HO3 := n0_; have HB := n1_; clear n0_ n1_; clear hb ho34; obtain ⟨Ao35, co35, eo35⟩ := Kd.R_slice HO3.out; subst eo35) | ((with_reducible refine gate_callee (f := 36) rfl ?_); refine goesL_ (some 4) rfl rfl Try.func36 (by kernel_rfl) rfl #[.agg #[.int .u32 0, .int .i64 0, .slice none 0 0, .slice Ao35 y1.length co35, .int .u32 0, .int .u32 0, .int .i64 0, .int .u32 0]] rfl (by (try simp only [List.map_toArray, List.map_cons, List.map_nil]); first | done | rfl | (simp only [List.length_drop, List.length_take]; rfl)) ?_; (refine (q9z.calls k 0 0 _ _ ([] : List Int) _ _ y1 0 0 0 0 t4 t5 t6 t9 t12 t13 t14 t15 _ ?side1 ?side2 ?side3 ?side4 A1.out).mono ?_); (case side1 => exact Kd.C_nil _ _); (case side2 => exact Nat.le_refl _); (case side3 => repeat (first | exact (Kd.R_reads' HO3.out).2.2 | (with_reducible refine Kd.C_alloc ?_ _) | (with_reducible refine Kd.C_drewN ?_ _) | (with_reducible refine Kd.C_drew ?_))); (case side4 => exact (Kd.R_reads' HO3.out).2.1); rintro e w36 ⟨v7, v10, rfl, ho0, ho1, hb⟩; refine ⟨_, rfl, ?_⟩; have n0_ := Aside0.mk (Kd.R_mono (Kd.R_told (Kd.R_told (Kd.R_old (by (with_reducible repeat (first | apply Kd.R_alloc | apply Kd.R_drewN | apply Kd.R_drew)); exact HO3.out) hb) (Kd.R_base ho0)) (Kd.R_base ho1)) (fun _ h_ => h_.1)); have n1_ := Aside0.mk (Kd.R_lower (Kd.R_new' ho0 (Kd.R_lt (by (with_reducible repeat (first | apply Kd.R_alloc | apply Kd.R_drewN | apply Kd.R_drew)); exact HO3.out))) (below_size (by repeat (first | (with_reducible first | exact HB.out | apply below_alloc | apply pw_below_drewN | apply below_drew1) | exact HB.out)))); have n2_ := Aside0.mk (Kd.R_lower (Kd.R_new' ho1 (Kd.R_lt (by (with_reducible repeat (first | apply Kd.R_alloc | apply Kd.R_drewN | apply Kd.R_drew)); exact HO3.out))) (below_size (by repeat (first | (with_reducible first | exact HB.out | apply below_alloc | apply pw_below_drewN | apply below_drew1) | exact HB.out)))); have n3_ := Aside0.mk (below_step (by repeat (first | (with_reducible first | exact HB.out | apply below_alloc | apply pw_below_drewN | apply below_drew1) | exact HB.out)) hb); clear HO3; clear HB; have HO3 := n0_; have HO8 := n1_; have HO11 := n2_; have HB := n3_; clear n0_ n1_ n2_ n3_; (try clear hb); (try clear hb2); (try clear hk); (try clear hi); (try clear ho0); (try clear ho1)) | ((with_reducible refine gate_dst (N := 1) rfl ?_); (try (refine gate_guard (by rfl) ?_; dsimp only)); refine box_event ?hg (N := 1) ?hd (cs := #[.int .u32 0, .int .i64 0, .slice none 0 0, .slice none 0 0, .int .u32 0, .int .u32 0, .int .i64 0, .int .u32 0]) (t := 38) ?hr ?_; (case hd => rfl); (case hg => rfl); (case hr => first | (go_simp; done) | (go_simp; rfl)); intro gb16 hg w37 hbox hb; have n0_ := Aside0.mk (Kd.R_below (by (with_reducible repeat (first | apply Kd.R_alloc | apply Kd.R_drewN | apply Kd.R_drew)); exact HO3.out) hb); have n1_ := Aside0.mk (Kd.R_below (by (with_reducible repeat (first | apply Kd.R_alloc | apply Kd.R_drewN | apply Kd.R_drew)); exact HO8.out) hb); have n2_ := Aside0.mk (Kd.R_below (by (with_reducible repeat (first | apply Kd.R_alloc | apply Kd.R_drewN | apply Kd.R_drew)); exact HO11.out) hb); have n3_ := Aside0.mk (below_step (by repeat (first | (with_reducible first | exact HB.out | apply below_alloc | apply pw_below_drewN | apply below_drew1) | exact HB.out)) hb); have n4_ := Aside0.mk (hbox); have n5_ := Aside0.mk ((by rw [hg]; exact (below_size (by repeat (first | (with_reducible first | exact HB.out | apply below_alloc | apply pw_below_drewN | apply below_drew1) | exact HB.out))) : w.heap.size ≤ gb16)); have n6_ := Aside0.mk ((by rw [hg]; exact (below_size (by repeat (first | (with_reducible first | exact HB.out | apply below_alloc | apply pw_below_drewN | apply below_drew1) | exact HB.out))) : w.heap.size ≤ gb16)); clear HO3; clear HO8; clear HO11; clear HB; have HO3 := n0_; have HO8 := n1_; have HO11 := n2_; have HB := n3_; have BK16 := n4_; have GW16 := n5_; have GE16 := n6_; clear n0_ n1_ n2_ n3_ n4_ n5_ n6_; clear hb hbox hg; have hcz38_0 : w37.cell? ⟨gb16, 0, none⟩ = some (.int .u32 0) := (blk_cell BK16.out 0).trans rfl; have hcz38_1 : w37.cell? ⟨gb16, 1, none⟩ = some (.int .i64 0) := (blk_cell BK16.out 1).trans rfl; have hcz38_2 : w37.cell? ⟨gb16, 2, none⟩ = some (.slice none 0 0) := (blk_cell BK16.out 2).trans rfl; have hcz38_3 : w37.cell? ⟨gb16, 3, none⟩ = some (.slice none 0 0) := (blk_cell BK16.out 3).trans rfl; have hcz38_4 : w37.cell? ⟨gb16, 4, none⟩ = some (.int .u32 0) := (blk_cell BK16.out 4).trans rfl; have hcz38_5 : w37.cell? ⟨gb16, 5, none⟩ = some (.int .u32 0) := (blk_cell BK16.out 5).trans rfl; have hcz38_6 : w37.cell? ⟨gb16, 6, none⟩ = some (.int .i64 0) := (blk_cell BK16.out 6).trans rfl; have hcz38_7 : w37.cell? ⟨gb16, 7, none⟩ = some (.int .u32 0) := (blk_cell BK16.out 7).trans rfl; have hfz38_0 := blk_frozen BK16.out 0; have hfz38_1 := blk_frozen BK16.out 1; have hfz38_2 := blk_frozen BK16.out 2; have hfz38_3 := blk_frozen BK16.out 3; have hfz38_4 := blk_frozen BK16.out 4; have hfz38_5 := blk_frozen BK16.out 5; have hfz38_6 := blk_frozen BK16.out 6; have hfz38_7 := blk_frozen BK16.out 7; obtain ⟨Ao39, co39, eo39⟩ := Kd.R_slice HO8.out; subst eo39; obtain ⟨Ao40, co40, eo40⟩ := Kd.R_slice HO11.out; subst eo40) | ((with_reducible refine gate_callee (f := 32) rfl ?_); refine goesL_ (some 6) rfl rfl Try.func32 (by kernel_rfl) rfl #[.agg #[.int .u32 167838211, .int .i64 8]] rfl (by (try simp only [List.map_toArray, List.map_cons, List.map_nil]); first | done | rfl | (simp only [List.length_drop, List.length_take]; rfl)) ?_; (with_reducible refine (q1z.calls 167838211 8 t17 t18 _ A2.out).mono ?_); rintro e w41 ⟨rfl, hb⟩; refine ⟨_, rfl, ?_⟩; have n0_ := Aside0.mk (Kd.R_below (by (with_reducible repeat (first | apply Kd.R_alloc | apply Kd.R_drewN | apply Kd.R_drew)); exact (Kd.R_mono (Kd.R_far (p := ⟨gb16, 7, none⟩) (Kd.R_far (p := ⟨gb16, 6, none⟩) (Kd.R_far (p := ⟨gb16, 5, none⟩) (Kd.R_far (p := ⟨gb16, 4, none⟩) (Kd.R_far (p := ⟨gb16, 3, none⟩) (Kd.R_far (p := ⟨gb16, 2, none⟩) (Kd.R_far (p := ⟨gb16, 1, none⟩) (Kd.R_far (p := ⟨gb16, 0, none⟩) (Kd.R_types HO3.out BK16.out (by decide)) (fun _ hk => hk.2) (.int .u32 t4)) (fun _ hk => hk.2) (.int .i64 t5)) (fun _ hk => hk.2) (.slice Ao39 t6.length co39)) (fun _ hk => hk.2) (.slice Ao40 t9.length co40)) (fun _ hk => hk.2) (.int .u32 t12)) (fun _ hk => hk.2) (.int .u32 t13)) (fun _ hk => hk.2) (.int .i64 t14)) (fun _ hk => hk.2) (.int .u32 t15)) (fun _ h_ => h_.1))) hb); have n1_ := Aside0.mk (Kd.R_below (by (with_reducible repeat (first | apply Kd.R_alloc | apply Kd.R_drewN | apply Kd.R_drew)); exact (Kd.R_mono (Kd.R_far (p := ⟨gb16, 7, none⟩) (Kd.R_far (p := ⟨gb16, 6, none⟩) (Kd.R_far (p := ⟨gb16, 5, none⟩) (Kd.R_far (p := ⟨gb16, 4, none⟩) (Kd.R_far (p := ⟨gb16, 3, none⟩) (Kd.R_far (p := ⟨gb16, 2, none⟩) (Kd.R_far (p := ⟨gb16, 1, none⟩) (Kd.R_far (p := ⟨gb16, 0, none⟩) (Kd.R_types HO8.out BK16.out (by decide)) (fun _ hk => hk.2) (.int .u32 t4)) (fun _ hk => hk.2) (.int .i64 t5)) (fun _ hk => hk.2) (.slice Ao39 t6.length co39)) (fun _ hk => hk.2) (.slice Ao40 t9.length co40)) (fun _ hk => hk.2) (.int .u32 t12)) (fun _ hk => hk.2) (.int .u32 t13)) (fun _ hk => hk.2) (.int .i64 t14)) (fun _ hk => hk.2) (.int .u32 t15)) (fun _ h_ => h_.1))) hb); have n2_ := Aside0.mk (Kd.R_below (by (with_reducible repeat (first | apply Kd.R_alloc | apply Kd.R_drewN | apply Kd.R_drew)); exact (Kd.R_mono (Kd.R_far (p := ⟨gb16, 7, none⟩) (Kd.R_far (p := ⟨gb16, 6, none⟩) (Kd.R_far (p := ⟨gb16, 5, none⟩) (Kd.R_far (p := ⟨gb16, 4, none⟩) (Kd.R_far (p := ⟨gb16, 3, none⟩) (Kd.R_far (p := ⟨gb16, 2, none⟩) (Kd.R_far (p := ⟨gb16, 1, none⟩) (Kd.R_far (p := ⟨gb16, 0, none⟩) (Kd.R_types HO11.out BK16.out (by decide)) (fun _ hk => hk.2) (.int .u32 t4)) (fun _ hk => hk.2) (.int .i64 t5)) (fun _ hk => hk.2) (.slice Ao39 t6.length co39)) (fun _ hk => hk.2) (.slice Ao40 t9.length co40)) (fun _ hk => hk.2) (.int .u32 t12)) (fun _ hk => hk.2) (.int .u32 t13)) (fun _ hk => hk.2) (.int .i64 t14)) (fun _ hk => hk.2) (.int .u32 t15)) (fun _ h_ => h_.1))) hb); have n3_ := Aside0.mk (blk_below (g := gb16) (o := .cells #[.int .u32 t4, .int .i64 t5, .slice Ao39 t6.length co39, .slice Ao40 t9.length co40, .int .u32 t12, .int .u32 t13, .int .i64 t14, .int .u32 t15] 38 (0, 0)) (by (with_reducible repeat (first | refine blk_drewN ?_ _ | refine blk_drew ?_ | refine blk_alloc ?_ _)); refine blk_put (cs := #[.int .u32 t4, .int .i64 t5, .slice Ao39 t6.length co39, .slice Ao40 t9.length co40, .int .u32 t12, .int .u32 t13, .int .i64 t14, .int .u32 0]) ?_ 7 _ rfl; (with_reducible repeat (first | refine blk_drewN ?_ _ | refine blk_drew ?_ | refine blk_alloc ?_ _)); refine blk_put (cs := #[.int .u32 t4, .int .i64 t5, .slice Ao39 t6.length co39, .slice Ao40 t9.length co40, .int .u32 t12, .int .u32 t13, .int .i64 0, .int .u32 0]) ?_ 6 _ rfl; (with_reducible repeat (first | refine blk_drewN ?_ _ | refine blk_drew ?_ | refine blk_alloc ?_ _)); refine blk_put (cs := #[.int .u32 t4, .int .i64 t5, .slice Ao39 t6.length co39, .slice Ao40 t9.length co40, .int .u32 t12, .int .u32 0, .int .i64 0, .int .u32 0]) ?_ 5 _ rfl; (with_reducible repeat (first | refine blk_drewN ?_ _ | refine blk_drew ?_ | refine blk_alloc ?_ _)); refine blk_put (cs := #[.int .u32 t4, .int .i64 t5, .slice Ao39 t6.length co39, .slice Ao40 t9.length co40, .int .u32 0, .int .u32 0, .int .i64 0, .int .u32 0]) ?_ 4 _ rfl; (with_reducible repeat (first | refine blk_drewN ?_ _ | refine blk_drew ?_ | refine blk_alloc ?_ _)); refine blk_put (cs := #[.int .u32 t4, .int .i64 t5, .slice Ao39 t6.length co39, .slice none 0 0, .int .u32 0, .int .u32 0, .int .i64 0, .int .u32 0]) ?_ 3 _ rfl; (with_reducible repeat (first | refine blk_drewN ?_ _ | refine blk_drew ?_ | refine blk_alloc ?_ _)); refine blk_put (cs := #[.int .u32 t4, .int .i64 t5, .slice none 0 0, .slice none 0 0, .int .u32 0, .int .u32 0, .int .i64 0, .int .u32 0]) ?_ 2 _ rfl; (with_reducible repeat (first | refine blk_drewN ?_ _ | refine blk_drew ?_ | refine blk_alloc ?_ _)); refine blk_put (cs := #[.int .u32 t4, .int .i64 0, .slice none 0 0, .slice none 0 0, .int .u32 0, .int .u32 0, .int .i64 0, .int .u32 0]) ?_ 1 _ rfl; (with_reducible repeat (first | refine blk_drewN ?_ _ | refine blk_drew ?_ | refine blk_alloc ?_ _)); refine blk_put (cs := #[.int .u32 0, .int .i64 0, .slice none 0 0, .slice none 0 0, .int .u32 0, .int .u32 0, .int .i64 0, .int .u32 0]) ?_ 0 _ rfl; (with_reducible repeat (first | refine blk_drewN ?_ _ | refine blk_drew ?_ | refine blk_alloc ?_ _)); exact BK16.out) hb); have n4_ := Aside0.mk (below_step (by repeat (first | (with_reducible first | exact HB.out | apply below_alloc | apply pw_below_drewN | apply below_drew1 | refine below_set ?_ GE16.out) | exact HB.out)) hb); clear HO3; clear HO8; clear HO11; clear BK16; clear HB; have HO3 := n0_; have HO8 := n1_; have HO11 := n2_; have BK16 := n3_; have HB := n4_; clear n0_ n1_ n2_ n3_ n4_; (try clear hb); (try clear hb2); (try clear hk); (try clear hi); have hcz42_0 : w41.cell? ⟨gb16, 0, none⟩ = some (.int .u32 t4) := (blk_cell BK16.out 0).trans rfl; have hcz42_1 : w41.cell? ⟨gb16, 1, none⟩ = some (.int .i64 t5) := (blk_cell BK16.out 1).trans rfl; have hcz42_2 : w41.cell? ⟨gb16, 2, none⟩ = some (.slice Ao39 t6.length co39) := (blk_cell BK16.out 2).trans rfl; have hcz42_3 : w41.cell? ⟨gb16, 3, none⟩ = some (.slice Ao40 t9.length co40) := (blk_cell BK16.out 3).trans rfl; have hcz42_4 : w41.cell? ⟨gb16, 4, none⟩ = some (.int .u32 t12) := (blk_cell BK16.out 4).trans rfl; have hcz42_5 : w41.cell? ⟨gb16, 5, none⟩ = some (.int .u32 t13) := (blk_cell BK16.out 5).trans rfl; have hcz42_6 : w41.cell? ⟨gb16, 6, none⟩ = some (.int .i64 t14) := (blk_cell BK16.out 6).trans rfl; have hcz42_7 : w41.cell? ⟨gb16, 7, none⟩ = some (.int .u32 t15) := (blk_cell BK16.out 7).trans rfl; have hfz42_0 := blk_frozen BK16.out 0; have hfz42_1 := blk_frozen BK16.out 1; have hfz42_2 := blk_frozen BK16.out 2; have hfz42_3 := blk_frozen BK16.out 3; have hfz42_4 := blk_frozen BK16.out 4; have hfz42_5 := blk_frozen BK16.out 5; have hfz42_6 := blk_frozen BK16.out 6; have hfz42_7 := blk_frozen BK16.out 7) | ((with_reducible refine gate_dst (N := 12) rfl ?_); (try (refine gate_guard (by rfl) ?_; dsimp only)); refine Kd.R_lit (Kd.int .u32) _ 33 ?hg (N := 12) ?hd (xs := ([3, 7] : List Int)) (inner := [.int .u32 3, .int .u32 7]) (ok := fun _ => True) (okp := fun _ => True) ?hr ?hp (fun _ hk => hk) trivial (Below.refl _ _) (Nat.le_refl _) (by simp) ?_; (case hd => rfl); (case hg => rfl); (case hr => first | (go_simp; done) | (go_simp; rfl)); (case hp => exact (Reps.one (show Kd.M (Kd.int .u32) _ _ _ 3 [.int .u32 3] from rfl) (Reps.one (show Kd.M (Kd.int .u32) _ _ _ 7 [.int .u32 7] from rfl) (Reps.none _ _)))); intro v20 w43 ho44 hb hg_ hnew_; clear hg_ hnew_; (first | rw [← Ny19.out] at ho44 | (simp only [Int.reduceToNat] at ho44; rw [← Ny19.out] at ho44)); have n0_ := Aside0.mk (Kd.R_elder' (by (with_reducible repeat (first | apply Kd.R_alloc | apply Kd.R_drewN | apply Kd.R_drew)); exact HO3.out) (Kd.R_base ho44) hb); have n1_ := Aside0.mk (Kd.R_elder' (by (with_reducible repeat (first | apply Kd.R_alloc | apply Kd.R_drewN | apply Kd.R_drew)); exact HO8.out) (Kd.R_base ho44) hb); have n2_ := Aside0.mk (Kd.R_elder' (by (with_reducible repeat (first | apply Kd.R_alloc | apply Kd.R_drewN | apply Kd.R_drew)); exact HO11.out) (Kd.R_base ho44) hb); have n3_ := Aside0.mk (Kd.R_lower (Kd.R_new' (Kd.R_new' (Kd.R_new' ho44 (Kd.R_lt (by (with_reducible repeat (first | apply Kd.R_alloc | apply Kd.R_drewN | apply Kd.R_drew)); exact HO3.out))) (Kd.R_lt (by (with_reducible repeat (first | apply Kd.R_alloc | apply Kd.R_drewN | apply Kd.R_drew)); exact HO8.out))) (Kd.R_lt (by (with_reducible repeat (first | apply Kd.R_alloc | apply Kd.R_drewN | apply Kd.R_drew)); exact HO11.out))) (below_size (by repeat (first | (with_reducible first | exact HB.out | apply below_alloc | apply pw_below_drewN | apply below_drew1 | refine below_set ?_ GE16.out) | exact HB.out)))); have n4_ := Aside0.mk (blk_below (g := gb16) (o := .cells #[.int .u32 t4, .int .i64 t5, .slice Ao39 t6.length co39, .slice Ao40 t9.length co40, .int .u32 t12, .int .u32 t13, .int .i64 t14, .int .u32 t15] 38 (0, 0)) (by (with_reducible repeat (first | refine blk_drewN ?_ _ | refine blk_drew ?_ | refine blk_alloc ?_ _)); exact BK16.out) hb); have n5_ := Aside0.mk (below_step (by repeat (first | (with_reducible first | exact HB.out | apply below_alloc | apply pw_below_drewN | apply below_drew1 | refine below_set ?_ GE16.out) | exact HB.out)) hb); clear HO3; clear HO8; clear HO11; clear BK16; clear HB; have HO3 := n0_; have HO8 := n1_; have HO11 := n2_; have HO21 := n3_; have BK16 := n4_; have HB := n5_; clear n0_ n1_ n2_ n3_ n4_ n5_; clear hb ho44; obtain ⟨Ao45, co45, eo45⟩ := Kd.R_slice HO21.out; subst eo45) | (go_at_call 55; (with_reducible refine (q16z.calls k _ _ t9 _ _ y19 true _ ?side1 ?side2 ?side3 ?side4 A4.out).mono ?_); (case side1 => repeat (first | exact (Kd.R_reads' HO11.out).2.2 | (with_reducible refine Kd.C_alloc ?_ _) | (with_reducible refine Kd.C_drewN ?_ _) | (with_reducible refine Kd.C_drew ?_))); (case side2 => exact (Kd.R_reads' HO11.out).2.1); (case side3 => repeat (first | exact (Kd.R_reads' HO21.out).2.2 | (with_reducible refine Kd.C_alloc ?_ _) | (with_reducible refine Kd.C_drewN ?_ _) | (with_reducible refine Kd.C_drew ?_))); (case side4 => exact (Kd.R_reads' HO21.out).2.1); rintro e w' ⟨rfl, ⟨nd, rfl⟩⟩) | ((with_reducible refine gate_dst (N := 16) rfl ?_); (try (refine gate_guard (by rfl) ?_; dsimp only)); refine Kd.R_lit (Kd.int .u32) _ 33 ?hg (N := 16) ?hd (xs := ([1] : List Int)) (inner := [.int .u32 1]) (ok := fun _ => True) (okp := fun _ => True) ?hr ?hp (fun _ hk => hk) trivial (Below.refl _ _) (Nat.le_refl _) (by simp) ?_; (case hd => rfl); (case hg => rfl); (case hr => first | (go_simp; done) | (go_simp; rfl)); (case hp => exact (Reps.one (show Kd.M (Kd.int .u32) _ _ _ 1 [.int .u32 1] from rfl) (Reps.none _ _))); intro v24 w46 ho47 hb hg_ hnew_; clear hg_ hnew_; (first | rw [← Ny23.out] at ho47 | (simp only [Int.reduceToNat] at ho47; rw [← Ny23.out] at ho47)); have n0_ := Aside0.mk (Kd.R_elder' (by (with_reducible repeat (first | apply Kd.R_alloc | apply Kd.R_drewN | apply Kd.R_drew)); exact HO3.out) (Kd.R_base ho47) hb); have n1_ := Aside0.mk (Kd.R_elder' (by (with_reducible repeat (first | apply Kd.R_alloc | apply Kd.R_drewN | apply Kd.R_drew)); exact HO8.out) (Kd.R_base ho47) hb); have n2_ := Aside0.mk (Kd.R_elder' (by (with_reducible repeat (first | apply Kd.R_alloc | apply Kd.R_drewN | apply Kd.R_drew)); exact HO11.out) (Kd.R_base ho47) hb); have n3_ := Aside0.mk (Kd.R_elder' (by (with_reducible repeat (first | apply Kd.R_alloc | apply Kd.R_drewN | apply Kd.R_drew)); exact HO21.out) (Kd.R_base ho47) hb); have n4_ := Aside0.mk (Kd.R_lower (Kd.R_new' (Kd.R_new' (Kd.R_new' (Kd.R_new' ho47 (Kd.R_lt (by (with_reducible repeat (first | apply Kd.R_alloc | apply Kd.R_drewN | apply Kd.R_drew)); exact HO3.out))) (Kd.R_lt (by (with_reducible repeat (first | apply Kd.R_alloc | apply Kd.R_drewN | apply Kd.R_drew)); exact HO8.out))) (Kd.R_lt (by (with_reducible repeat (first | apply Kd.R_alloc | apply Kd.R_drewN | apply Kd.R_drew)); exact HO11.out))) (Kd.R_lt (by (with_reducible repeat (first | apply Kd.R_alloc | apply Kd.R_drewN | apply Kd.R_drew)); exact HO21.out))) (below_size (by repeat (first | (with_reducible first | exact HB.out | apply below_alloc | apply pw_below_drewN | apply below_drew1 | refine below_set ?_ GE16.out) | exact HB.out)))); have n5_ := Aside0.mk (blk_below (g := gb16) (o := .cells #[.int .u32 t4, .int .i64 t5, .slice Ao39 t6.length co39, .slice Ao40 t9.length co40, .int .u32 t12, .int .u32 t13, .int .i64 t14, .int .u32 t15] 38 (0, 0)) (by (with_reducible repeat (first | refine blk_drewN ?_ _ | refine blk_drew ?_ | refine blk_alloc ?_ _)); exact BK16.out) hb); have n6_ := Aside0.mk (below_step (by repeat (first | (with_reducible first | exact HB.out | apply below_alloc | apply pw_below_drewN | apply below_drew1 | refine below_set ?_ GE16.out) | exact HB.out)) hb); clear HO3; clear HO8; clear HO11; clear HO21; clear BK16; clear HB; have HO3 := n0_; have HO8 := n1_; have HO11 := n2_; have HO21 := n3_; have HO25 := n4_; have BK16 := n5_; have HB := n6_; clear n0_ n1_ n2_ n3_ n4_ n5_ n6_; clear hb ho47; obtain ⟨Ao48, co48, eo48⟩ := Kd.R_slice HO25.out; subst eo48) | ((with_reducible refine gate_dst (N := 18) rfl ?_); (try (refine gate_guard (by rfl) ?_; dsimp only)); refine Kd.R_lit (Kd.int .u32) _ 33 ?hg (N := 18) ?hd (xs := ([1, 2] : List Int)) (inner := [.int .u32 1, .int .u32 2]) (ok := fun _ => True) (okp := fun _ => True) ?hr ?hp (fun _ hk => hk) trivial (Below.refl _ _) (Nat.le_refl _) (by simp) ?_; (case hd => rfl); (case hg => rfl); (case hr => first | (go_simp; done) | (go_simp; rfl)); (case hp => exact (Reps.one (show Kd.M (Kd.int .u32) _ _ _ 1 [.int .u32 1] from rfl) (Reps.one (show Kd.M (Kd.int .u32) _ _ _ 2 [.int .u32 2] from rfl) (Reps.none _ _)))); intro v27 w49 ho50 hb hg_ hnew_; clear hg_ hnew_; (first | rw [← Ny26.out] at ho50 | (simp only [Int.reduceToNat] at ho50; rw [← Ny26.out] at ho50)); have n0_ := Aside0.mk (Kd.R_elder' (by (with_reducible repeat (first | apply Kd.R_alloc | apply Kd.R_drewN | apply Kd.R_drew)); exact HO3.out) (Kd.R_base ho50) hb); have n1_ := Aside0.mk (Kd.R_elder' (by (with_reducible repeat (first | apply Kd.R_alloc | apply Kd.R_drewN | apply Kd.R_drew)); exact HO8.out) (Kd.R_base ho50) hb); have n2_ := Aside0.mk (Kd.R_elder' (by (with_reducible repeat (first | apply Kd.R_alloc | apply Kd.R_drewN | apply Kd.R_drew)); exact HO11.out) (Kd.R_base ho50) hb); have n3_ := Aside0.mk (Kd.R_elder' (by (with_reducible repeat (first | apply Kd.R_alloc | apply Kd.R_drewN | apply Kd.R_drew)); exact HO21.out) (Kd.R_base ho50) hb); have n4_ := Aside0.mk (Kd.R_elder' (by (with_reducible repeat (first | apply Kd.R_alloc | apply Kd.R_drewN | apply Kd.R_drew)); exact HO25.out) (Kd.R_base ho50) hb); have n5_ := Aside0.mk (Kd.R_lower (Kd.R_new' (Kd.R_new' (Kd.R_new' (Kd.R_new' (Kd.R_new' ho50 (Kd.R_lt (by (with_reducible repeat (first | apply Kd.R_alloc | apply Kd.R_drewN | apply Kd.R_drew)); exact HO3.out))) (Kd.R_lt (by (with_reducible repeat (first | apply Kd.R_alloc | apply Kd.R_drewN | apply Kd.R_drew)); exact HO8.out))) (Kd.R_lt (by (with_reducible repeat (first | apply Kd.R_alloc | apply Kd.R_drewN | apply Kd.R_drew)); exact HO11.out))) (Kd.R_lt (by (with_reducible repeat (first | apply Kd.R_alloc | apply Kd.R_drewN | apply Kd.R_drew)); exact HO21.out))) (Kd.R_lt (by (with_reducible repeat (first | apply Kd.R_alloc | apply Kd.R_drewN | apply Kd.R_drew)); exact HO25.out))) (below_size (by repeat (first | (with_reducible first | exact HB.out | apply below_alloc | apply pw_below_drewN | apply below_drew1 | refine below_set ?_ GE16.out) | exact HB.out)))); have n6_ := Aside0.mk (blk_below (g := gb16) (o := .cells #[.int .u32 t4, .int .i64 t5, .slice Ao39 t6.length co39, .slice Ao40 t9.length co40, .int .u32 t12, .int .u32 t13, .int .i64 t14, .int .u32 t15] 38 (0, 0)) (by (with_reducible repeat (first | refine blk_drewN ?_ _ | refine blk_drew ?_ | refine blk_alloc ?_ _)); exact BK16.out) hb); have n7_ := Aside0.mk (below_step (by repeat (first | (with_reducible first | exact HB.out | apply below_alloc | apply pw_below_drewN | apply below_drew1 | refine below_set ?_ GE16.out) | exact HB.out)) hb); clear HO3; clear HO8; clear HO11; clear HO21; clear HO25; clear BK16; clear HB; have HO3 := n0_; have HO8 := n1_; have HO11 := n2_; have HO21 := n3_; have HO25 := n4_; have HO28 := n5_; have BK16 := n6_; have HB := n7_; clear n0_ n1_ n2_ n3_ n4_ n5_ n6_ n7_; clear hb ho50; obtain ⟨Ao51, co51, eo51⟩ := Kd.R_slice HO28.out; subst eo51) | (go_at_call 40; (refine (q15z.calls k 0 0 _ _ y23 _ _ ([] : List Int) 0 0 0 0 0 0 _ _ y26 _ _ ([] : List Int) 0 0 0 0 t29 _ ?side1 ?side2 ?side3 ?side4 ?side5 ?side6 ?side7 ?side8 A6.out).mono ?_); (case side1 => repeat (first | exact (Kd.R_reads' HO25.out).2.2 | (with_reducible refine Kd.C_alloc ?_ _) | (with_reducible refine Kd.C_drewN ?_ _) | (with_reducible refine Kd.C_drew ?_))); (case side2 => exact (Kd.R_reads' HO25.out).2.1); (case side3 => exact Kd.C_nil _ _); (case side4 => exact Nat.le_refl _); (case side5 => repeat (first | exact (Kd.R_reads' HO28.out).2.2 | (with_reducible refine Kd.C_alloc ?_ _) | (with_reducible refine Kd.C_drewN ?_ _) | (with_reducible refine Kd.C_drew ?_))); (case side6 => exact (Kd.R_reads' HO28.out).2.1); (case side7 => exact Kd.C_nil _ _); (case side8 => exact Nat.le_refl _); rintro e w52 ⟨rfl, hb⟩; have n0_ := Aside0.mk (Kd.R_below (by (with_reducible repeat (first | apply Kd.R_alloc | apply Kd.R_drewN | apply Kd.R_drew)); exact HO3.out) hb); have n1_ := Aside0.mk (Kd.R_below (by (with_reducible repeat (first | apply Kd.R_alloc | apply Kd.R_drewN | apply Kd.R_drew)); exact HO8.out) hb); have n2_ := Aside0.mk (Kd.R_below (by (with_reducible repeat (first | apply Kd.R_alloc | apply Kd.R_drewN | apply Kd.R_drew)); exact HO11.out) hb); have n3_ := Aside0.mk (Kd.R_below (by (with_reducible repeat (first | apply Kd.R_alloc | apply Kd.R_drewN | apply Kd.R_drew)); exact HO21.out) hb); have n4_ := Aside0.mk (Kd.R_below (by (with_reducible repeat (first | apply Kd.R_alloc | apply Kd.R_drewN | apply Kd.R_drew)); exact HO25.out) hb); have n5_ := Aside0.mk (Kd.R_below (by (with_reducible repeat (first | apply Kd.R_alloc | apply Kd.R_drewN | apply Kd.R_drew)); exact HO28.out) hb); have n6_ := Aside0.mk (blk_below (g := gb16) (o := .cells #[.int .u32 t4, .int .i64 t5, .slice Ao39 t6.length co39, .slice Ao40 t9.length co40, .int .u32 t12, .int .u32 t13, .int .i64 t14, .int .u32 t15] 38 (0, 0)) (by (with_reducible repeat (first | refine blk_drewN ?_ _ | refine blk_drew ?_ | refine blk_alloc ?_ _)); exact BK16.out) hb); have n7_ := Aside0.mk (below_step (by repeat (first | (with_reducible first | exact HB.out | apply below_alloc | apply pw_below_drewN | apply below_drew1 | refine below_set ?_ GE16.out) | exact HB.out)) hb); clear HO3; clear HO8; clear HO11; clear HO21; clear HO25; clear HO28; clear BK16; clear HB; have HO3 := n0_; have HO8 := n1_; have HO11 := n2_; have HO21 := n3_; have HO25 := n4_; have HO28 := n5_; have BK16 := n6_; have HB := n7_; clear n0_ n1_ n2_ n3_ n4_ n5_ n6_ n7_; (try clear hb); (try clear hb2); (try clear hk); (try clear hi)) | (go_at_call 30; (refine (q4z.calls k 0 0 _ _ ([] : List Int) _ _ ([] : List Int) 0 0 0 0 false _ ?side1 ?side2 ?side3 ?side4 A8.out).mono ?_); (case side1 => exact Kd.C_nil _ _); (case side2 => exact Nat.le_refl _); (case side3 => exact Kd.C_nil _ _); (case side4 => exact Nat.le_refl _); rintro e w53 ⟨rfl, hb⟩; have n0_ := Aside0.mk (Kd.R_below (by (with_reducible repeat (first | apply Kd.R_alloc | apply Kd.R_drewN | apply Kd.R_drew)); exact HO3.out) hb); have n1_ := Aside0.mk (Kd.R_below (by (with_reducible repeat (first | apply Kd.R_alloc | apply Kd.R_drewN | apply Kd.R_drew)); exact HO8.out) hb); have n2_ := Aside0.mk (Kd.R_below (by (with_reducible repeat (first | apply Kd.R_alloc | apply Kd.R_drewN | apply Kd.R_drew)); exact HO11.out) hb); have n3_ := Aside0.mk (Kd.R_below (by (with_reducible repeat (first | apply Kd.R_alloc | apply Kd.R_drewN | apply Kd.R_drew)); exact HO21.out) hb); have n4_ := Aside0.mk (Kd.R_below (by (with_reducible repeat (first | apply Kd.R_alloc | apply Kd.R_drewN | apply Kd.R_drew)); exact HO25.out) hb); have n5_ := Aside0.mk (Kd.R_below (by (with_reducible repeat (first | apply Kd.R_alloc | apply Kd.R_drewN | apply Kd.R_drew)); exact HO28.out) hb); have n6_ := Aside0.mk (blk_below (g := gb16) (o := .cells #[.int .u32 t4, .int .i64 t5, .slice Ao39 t6.length co39, .slice Ao40 t9.length co40, .int .u32 t12, .int .u32 t13, .int .i64 t14, .int .u32 t15] 38 (0, 0)) (by (with_reducible repeat (first | refine blk_drewN ?_ _ | refine blk_drew ?_ | refine blk_alloc ?_ _)); exact BK16.out) hb); have n7_ := Aside0.mk (below_step (by repeat (first | (with_reducible first | exact HB.out | apply below_alloc | apply pw_below_drewN | apply below_drew1 | refine below_set ?_ GE16.out) | exact HB.out)) hb); clear HO3; clear HO8; clear HO11; clear HO21; clear HO25; clear HO28; clear BK16; clear HB; have HO3 := n0_; have HO8 := n1_; have HO11 := n2_; have HO21 := n3_; have HO25 := n4_; have HO28 := n5_; have BK16 := n6_; have HB := n7_; clear n0_ n1_ n2_ n3_ n4_ n5_ n6_ n7_; (try clear hb); (try clear hb2); (try clear hk); (try clear hi)))
     go_ret
     exact ⟨by first | rfl | (simp [errW_none, errW_some] <;> rfl) | (simp [*, errW_none, errW_some] <;> rfl), by repeat (first | (with_reducible first | exact HB.out | apply below_alloc | apply pw_below_drewN | apply below_drew1 | refine below_set ?_ GE16.out) | exact HB.out)⟩
   ·
    rw [if_neg c7] at H
    have c7b0 : (t29 == (-1)) = false := beq_eq_false_iff_ne.mpr c7
    have c7b1 : (t29 != (-1)) = true := bne_iff_ne.mpr c7
    obtain rfl := Option.some.inj H
    go_enter Try.func29, Try.ntmps29
    go_wp2_with (first | ((with_reducible refine gate_dst (N := 2) rfl ?_); (try (refine gate_guard (by rfl) ?_; dsimp only)); refine Kd.R_lit (Kd.int .u32) _ 33 ?hg (N := 2) ?hd (xs := ([7, 3, 7] : List Int)) (inner := [.int .u32 7, .int .u32 3, .int .u32 7]) (ok := fun _ => True) (okp := fun _ => True) ?hr ?hp (fun _ hk => hk) trivial (Below.refl _ _) (Nat.le_refl _) (by simp) ?_; (case hd => rfl); (case hg => rfl); (case hr => first | (go_simp; done) | (go_simp; rfl)); (case hp => exact (Reps.one (show Kd.M (Kd.int .u32) _ _ _ 7 [.int .u32 7] from rfl) (Reps.one (show Kd.M (Kd.int .u32) _ _ _ 3 [.int .u32 3] from rfl) (Reps.one (show Kd.M (Kd.int .u32) _ _ _ 7 [.int .u32 7] from rfl) (Reps.none _ _))))); intro v2 w54 ho55 hb hg_ hnew_; clear hg_ hnew_; (first | rw [← Ny1.out] at ho55 | (simp only [Int.reduceToNat] at ho55; rw [← Ny1.out] at ho55)); have n0_ := Aside0.mk (Kd.R_lower ho55 (below_size (by repeat (first | (with_reducible first | exact HB.out | apply below_alloc | apply pw_below_drewN | apply below_drew1) | exact HB.out)))); have n1_ := Aside0.mk (below_step (by repeat (first | (with_reducible first | exact HB.out | apply below_alloc | apply pw_below_drewN | apply below_drew1) | exact HB.out)) hb); clear HB; have HO3 := n0_; have HB := n1_; clear n0_ n1_; clear hb ho55; obtain ⟨Ao56, co56, eo56⟩ := Kd.R_slice HO3.out; subst eo56) | ((with_reducible refine gate_callee (f := 36) rfl ?_); refine goesL_ (some 4) rfl rfl Try.func36 (by kernel_rfl) rfl #[.agg #[.int .u32 0, .int .i64 0, .slice none 0 0, .slice Ao56 y1.length co56, .int .u32 0, .int .u32 0, .int .i64 0, .int .u32 0]] rfl (by (try simp only [List.map_toArray, List.map_cons, List.map_nil]); first | done | rfl | (simp only [List.length_drop, List.length_take]; rfl)) ?_; (refine (q9z.calls k 0 0 _ _ ([] : List Int) _ _ y1 0 0 0 0 t4 t5 t6 t9 t12 t13 t14 t15 _ ?side1 ?side2 ?side3 ?side4 A1.out).mono ?_); (case side1 => exact Kd.C_nil _ _); (case side2 => exact Nat.le_refl _); (case side3 => repeat (first | exact (Kd.R_reads' HO3.out).2.2 | (with_reducible refine Kd.C_alloc ?_ _) | (with_reducible refine Kd.C_drewN ?_ _) | (with_reducible refine Kd.C_drew ?_))); (case side4 => exact (Kd.R_reads' HO3.out).2.1); rintro e w57 ⟨v7, v10, rfl, ho0, ho1, hb⟩; refine ⟨_, rfl, ?_⟩; have n0_ := Aside0.mk (Kd.R_mono (Kd.R_told (Kd.R_told (Kd.R_old (by (with_reducible repeat (first | apply Kd.R_alloc | apply Kd.R_drewN | apply Kd.R_drew)); exact HO3.out) hb) (Kd.R_base ho0)) (Kd.R_base ho1)) (fun _ h_ => h_.1)); have n1_ := Aside0.mk (Kd.R_lower (Kd.R_new' ho0 (Kd.R_lt (by (with_reducible repeat (first | apply Kd.R_alloc | apply Kd.R_drewN | apply Kd.R_drew)); exact HO3.out))) (below_size (by repeat (first | (with_reducible first | exact HB.out | apply below_alloc | apply pw_below_drewN | apply below_drew1) | exact HB.out)))); have n2_ := Aside0.mk (Kd.R_lower (Kd.R_new' ho1 (Kd.R_lt (by (with_reducible repeat (first | apply Kd.R_alloc | apply Kd.R_drewN | apply Kd.R_drew)); exact HO3.out))) (below_size (by repeat (first | (with_reducible first | exact HB.out | apply below_alloc | apply pw_below_drewN | apply below_drew1) | exact HB.out)))); have n3_ := Aside0.mk (below_step (by repeat (first | (with_reducible first | exact HB.out | apply below_alloc | apply pw_below_drewN | apply below_drew1) | exact HB.out)) hb); clear HO3; clear HB; have HO3 := n0_; have HO8 := n1_; have HO11 := n2_; have HB := n3_; clear n0_ n1_ n2_ n3_; (try clear hb); (try clear hb2); (try clear hk); (try clear hi); (try clear ho0); (try clear ho1)) | ((with_reducible refine gate_dst (N := 1) rfl ?_); (try (refine gate_guard (by rfl) ?_; dsimp only)); refine box_event ?hg (N := 1) ?hd (cs := #[.int .u32 0, .int .i64 0, .slice none 0 0, .slice none 0 0, .int .u32 0, .int .u32 0, .int .i64 0, .int .u32 0]) (t := 38) ?hr ?_; (case hd => rfl); (case hg => rfl); (case hr => first | (go_simp; done) | (go_simp; rfl)); intro gb16 hg w58 hbox hb; have n0_ := Aside0.mk (Kd.R_below (by (with_reducible repeat (first | apply Kd.R_alloc | apply Kd.R_drewN | apply Kd.R_drew)); exact HO3.out) hb); have n1_ := Aside0.mk (Kd.R_below (by (with_reducible repeat (first | apply Kd.R_alloc | apply Kd.R_drewN | apply Kd.R_drew)); exact HO8.out) hb); have n2_ := Aside0.mk (Kd.R_below (by (with_reducible repeat (first | apply Kd.R_alloc | apply Kd.R_drewN | apply Kd.R_drew)); exact HO11.out) hb); have n3_ := Aside0.mk (below_step (by repeat (first | (with_reducible first | exact HB.out | apply below_alloc | apply pw_below_drewN | apply below_drew1) | exact HB.out)) hb); have n4_ := Aside0.mk (hbox); have n5_ := Aside0.mk ((by rw [hg]; exact (below_size (by repeat (first | (with_reducible first | exact HB.out | apply below_alloc | apply pw_below_drewN | apply below_drew1) | exact HB.out))) : w.heap.size ≤ gb16)); have n6_ := Aside0.mk ((by rw [hg]; exact (below_size (by repeat (first | (with_reducible first | exact HB.out | apply below_alloc | apply pw_below_drewN | apply below_drew1) | exact HB.out))) : w.heap.size ≤ gb16)); clear HO3; clear HO8; clear HO11; clear HB; have HO3 := n0_; have HO8 := n1_; have HO11 := n2_; have HB := n3_; have BK16 := n4_; have GW16 := n5_; have GE16 := n6_; clear n0_ n1_ n2_ n3_ n4_ n5_ n6_; clear hb hbox hg; have hcz59_0 : w58.cell? ⟨gb16, 0, none⟩ = some (.int .u32 0) := (blk_cell BK16.out 0).trans rfl; have hcz59_1 : w58.cell? ⟨gb16, 1, none⟩ = some (.int .i64 0) := (blk_cell BK16.out 1).trans rfl; have hcz59_2 : w58.cell? ⟨gb16, 2, none⟩ = some (.slice none 0 0) := (blk_cell BK16.out 2).trans rfl; have hcz59_3 : w58.cell? ⟨gb16, 3, none⟩ = some (.slice none 0 0) := (blk_cell BK16.out 3).trans rfl; have hcz59_4 : w58.cell? ⟨gb16, 4, none⟩ = some (.int .u32 0) := (blk_cell BK16.out 4).trans rfl; have hcz59_5 : w58.cell? ⟨gb16, 5, none⟩ = some (.int .u32 0) := (blk_cell BK16.out 5).trans rfl; have hcz59_6 : w58.cell? ⟨gb16, 6, none⟩ = some (.int .i64 0) := (blk_cell BK16.out 6).trans rfl; have hcz59_7 : w58.cell? ⟨gb16, 7, none⟩ = some (.int .u32 0) := (blk_cell BK16.out 7).trans rfl; have hfz59_0 := blk_frozen BK16.out 0; have hfz59_1 := blk_frozen BK16.out 1; have hfz59_2 := blk_frozen BK16.out 2; have hfz59_3 := blk_frozen BK16.out 3; have hfz59_4 := blk_frozen BK16.out 4; have hfz59_5 := blk_frozen BK16.out 5; have hfz59_6 := blk_frozen BK16.out 6; have hfz59_7 := blk_frozen BK16.out 7; obtain ⟨Ao60, co60, eo60⟩ := Kd.R_slice HO8.out; subst eo60; obtain ⟨Ao61, co61, eo61⟩ := Kd.R_slice HO11.out; subst eo61) | ((with_reducible refine gate_callee (f := 32) rfl ?_); refine goesL_ (some 6) rfl rfl Try.func32 (by kernel_rfl) rfl #[.agg #[.int .u32 167838211, .int .i64 8]] rfl (by (try simp only [List.map_toArray, List.map_cons, List.map_nil]); first | done | rfl | (simp only [List.length_drop, List.length_take]; rfl)) ?_; (with_reducible refine (q1z.calls 167838211 8 t17 t18 _ A2.out).mono ?_); rintro e w62 ⟨rfl, hb⟩; refine ⟨_, rfl, ?_⟩; have n0_ := Aside0.mk (Kd.R_below (by (with_reducible repeat (first | apply Kd.R_alloc | apply Kd.R_drewN | apply Kd.R_drew)); exact (Kd.R_mono (Kd.R_far (p := ⟨gb16, 7, none⟩) (Kd.R_far (p := ⟨gb16, 6, none⟩) (Kd.R_far (p := ⟨gb16, 5, none⟩) (Kd.R_far (p := ⟨gb16, 4, none⟩) (Kd.R_far (p := ⟨gb16, 3, none⟩) (Kd.R_far (p := ⟨gb16, 2, none⟩) (Kd.R_far (p := ⟨gb16, 1, none⟩) (Kd.R_far (p := ⟨gb16, 0, none⟩) (Kd.R_types HO3.out BK16.out (by decide)) (fun _ hk => hk.2) (.int .u32 t4)) (fun _ hk => hk.2) (.int .i64 t5)) (fun _ hk => hk.2) (.slice Ao60 t6.length co60)) (fun _ hk => hk.2) (.slice Ao61 t9.length co61)) (fun _ hk => hk.2) (.int .u32 t12)) (fun _ hk => hk.2) (.int .u32 t13)) (fun _ hk => hk.2) (.int .i64 t14)) (fun _ hk => hk.2) (.int .u32 t15)) (fun _ h_ => h_.1))) hb); have n1_ := Aside0.mk (Kd.R_below (by (with_reducible repeat (first | apply Kd.R_alloc | apply Kd.R_drewN | apply Kd.R_drew)); exact (Kd.R_mono (Kd.R_far (p := ⟨gb16, 7, none⟩) (Kd.R_far (p := ⟨gb16, 6, none⟩) (Kd.R_far (p := ⟨gb16, 5, none⟩) (Kd.R_far (p := ⟨gb16, 4, none⟩) (Kd.R_far (p := ⟨gb16, 3, none⟩) (Kd.R_far (p := ⟨gb16, 2, none⟩) (Kd.R_far (p := ⟨gb16, 1, none⟩) (Kd.R_far (p := ⟨gb16, 0, none⟩) (Kd.R_types HO8.out BK16.out (by decide)) (fun _ hk => hk.2) (.int .u32 t4)) (fun _ hk => hk.2) (.int .i64 t5)) (fun _ hk => hk.2) (.slice Ao60 t6.length co60)) (fun _ hk => hk.2) (.slice Ao61 t9.length co61)) (fun _ hk => hk.2) (.int .u32 t12)) (fun _ hk => hk.2) (.int .u32 t13)) (fun _ hk => hk.2) (.int .i64 t14)) (fun _ hk => hk.2) (.int .u32 t15)) (fun _ h_ => h_.1))) hb); have n2_ := Aside0.mk (Kd.R_below (by (with_reducible repeat (first | apply Kd.R_alloc | apply Kd.R_drewN | apply Kd.R_drew)); exact (Kd.R_mono (Kd.R_far (p := ⟨gb16, 7, none⟩) (Kd.R_far (p := ⟨gb16, 6, none⟩) (Kd.R_far (p := ⟨gb16, 5, none⟩) (Kd.R_far (p := ⟨gb16, 4, none⟩) (Kd.R_far (p := ⟨gb16, 3, none⟩) (Kd.R_far (p := ⟨gb16, 2, none⟩) (Kd.R_far (p := ⟨gb16, 1, none⟩) (Kd.R_far (p := ⟨gb16, 0, none⟩) (Kd.R_types HO11.out BK16.out (by decide)) (fun _ hk => hk.2) (.int .u32 t4)) (fun _ hk => hk.2) (.int .i64 t5)) (fun _ hk => hk.2) (.slice Ao60 t6.length co60)) (fun _ hk => hk.2) (.slice Ao61 t9.length co61)) (fun _ hk => hk.2) (.int .u32 t12)) (fun _ hk => hk.2) (.int .u32 t13)) (fun _ hk => hk.2) (.int .i64 t14)) (fun _ hk => hk.2) (.int .u32 t15)) (fun _ h_ => h_.1))) hb); have n3_ := Aside0.mk (blk_below (g := gb16) (o := .cells #[.int .u32 t4, .int .i64 t5, .slice Ao60 t6.length co60, .slice Ao61 t9.length co61, .int .u32 t12, .int .u32 t13, .int .i64 t14, .int .u32 t15] 38 (0, 0)) (by (with_reducible repeat (first | refine blk_drewN ?_ _ | refine blk_drew ?_ | refine blk_alloc ?_ _)); refine blk_put (cs := #[.int .u32 t4, .int .i64 t5, .slice Ao60 t6.length co60, .slice Ao61 t9.length co61, .int .u32 t12, .int .u32 t13, .int .i64 t14, .int .u32 0]) ?_ 7 _ rfl; (with_reducible repeat (first | refine blk_drewN ?_ _ | refine blk_drew ?_ | refine blk_alloc ?_ _)); refine blk_put (cs := #[.int .u32 t4, .int .i64 t5, .slice Ao60 t6.length co60, .slice Ao61 t9.length co61, .int .u32 t12, .int .u32 t13, .int .i64 0, .int .u32 0]) ?_ 6 _ rfl; (with_reducible repeat (first | refine blk_drewN ?_ _ | refine blk_drew ?_ | refine blk_alloc ?_ _)); refine blk_put (cs := #[.int .u32 t4, .int .i64 t5, .slice Ao60 t6.length co60, .slice Ao61 t9.length co61, .int .u32 t12, .int .u32 0, .int .i64 0, .int .u32 0]) ?_ 5 _ rfl; (with_reducible repeat (first | refine blk_drewN ?_ _ | refine blk_drew ?_ | refine blk_alloc ?_ _)); refine blk_put (cs := #[.int .u32 t4, .int .i64 t5, .slice Ao60 t6.length co60, .slice Ao61 t9.length co61, .int .u32 0, .int .u32 0, .int .i64 0, .int .u32 0]) ?_ 4 _ rfl; (with_reducible repeat (first | refine blk_drewN ?_ _ | refine blk_drew ?_ | refine blk_alloc ?_ _)); refine blk_put (cs := #[.int .u32 t4, .int .i64 t5, .slice Ao60 t6.length co60, .slice none 0 0, .int .u32 0, .int .u32 0, .int .i64 0, .int .u32 0]) ?_ 3 _ rfl; (with_reducible repeat (first | refine blk_drewN ?_ _ | refine blk_drew ?_ | refine blk_alloc ?_ _)); refine blk_put (cs := #[.int .u32 t4, .int .i64 t5, .slice none 0 0, .slice none 0 0, .int .u32 0, .int .u32 0, .int .i64 0, .int .u32 0]) ?_ 2 _ rfl; (with_reducible repeat (first | refine blk_drewN ?_ _ | refine blk_drew ?_ | refine blk_alloc ?_ _)); refine blk_put (cs := #[.int .u32 t4, .int .i64 0, .slice none 0 0, .slice none 0 0, .int .u32 0, .int .u32 0, .int .i64 0, .int .u32 0]) ?_ 1 _ rfl; (with_reducible repeat (first | refine blk_drewN ?_ _ | refine blk_drew ?_ | refine blk_alloc ?_ _)); refine blk_put (cs := #[.int .u32 0, .int .i64 0, .slice none 0 0, .slice none 0 0, .int .u32 0, .int .u32 0, .int .i64 0, .int .u32 0]) ?_ 0 _ rfl; (with_reducible repeat (first | refine blk_drewN ?_ _ | refine blk_drew ?_ | refine blk_alloc ?_ _)); exact BK16.out) hb); have n4_ := Aside0.mk (below_step (by repeat (first | (with_reducible first | exact HB.out | apply below_alloc | apply pw_below_drewN | apply below_drew1 | refine below_set ?_ GE16.out) | exact HB.out)) hb); clear HO3; clear HO8; clear HO11; clear BK16; clear HB; have HO3 := n0_; have HO8 := n1_; have HO11 := n2_; have BK16 := n3_; have HB := n4_; clear n0_ n1_ n2_ n3_ n4_; (try clear hb); (try clear hb2); (try clear hk); (try clear hi); have hcz63_0 : w62.cell? ⟨gb16, 0, none⟩ = some (.int .u32 t4) := (blk_cell BK16.out 0).trans rfl; have hcz63_1 : w62.cell? ⟨gb16, 1, none⟩ = some (.int .i64 t5) := (blk_cell BK16.out 1).trans rfl; have hcz63_2 : w62.cell? ⟨gb16, 2, none⟩ = some (.slice Ao60 t6.length co60) := (blk_cell BK16.out 2).trans rfl; have hcz63_3 : w62.cell? ⟨gb16, 3, none⟩ = some (.slice Ao61 t9.length co61) := (blk_cell BK16.out 3).trans rfl; have hcz63_4 : w62.cell? ⟨gb16, 4, none⟩ = some (.int .u32 t12) := (blk_cell BK16.out 4).trans rfl; have hcz63_5 : w62.cell? ⟨gb16, 5, none⟩ = some (.int .u32 t13) := (blk_cell BK16.out 5).trans rfl; have hcz63_6 : w62.cell? ⟨gb16, 6, none⟩ = some (.int .i64 t14) := (blk_cell BK16.out 6).trans rfl; have hcz63_7 : w62.cell? ⟨gb16, 7, none⟩ = some (.int .u32 t15) := (blk_cell BK16.out 7).trans rfl; have hfz63_0 := blk_frozen BK16.out 0; have hfz63_1 := blk_frozen BK16.out 1; have hfz63_2 := blk_frozen BK16.out 2; have hfz63_3 := blk_frozen BK16.out 3; have hfz63_4 := blk_frozen BK16.out 4; have hfz63_5 := blk_frozen BK16.out 5; have hfz63_6 := blk_frozen BK16.out 6; have hfz63_7 := blk_frozen BK16.out 7) | ((with_reducible refine gate_dst (N := 12) rfl ?_); (try (refine gate_guard (by rfl) ?_; dsimp only)); refine Kd.R_lit (Kd.int .u32) _ 33 ?hg (N := 12) ?hd (xs := ([3, 7] : List Int)) (inner := [.int .u32 3, .int .u32 7]) (ok := fun _ => True) (okp := fun _ => True) ?hr ?hp (fun _ hk => hk) trivial (Below.refl _ _) (Nat.le_refl _) (by simp) ?_; (case hd => rfl); (case hg => rfl); (case hr => first | (go_simp; done) | (go_simp; rfl)); (case hp => exact (Reps.one (show Kd.M (Kd.int .u32) _ _ _ 3 [.int .u32 3] from rfl) (Reps.one (show Kd.M (Kd.int .u32) _ _ _ 7 [.int .u32 7] from rfl) (Reps.none _ _)))); intro v20 w64 ho65 hb hg_ hnew_; clear hg_ hnew_; (first | rw [← Ny19.out] at ho65 | (simp only [Int.reduceToNat] at ho65; rw [← Ny19.out] at ho65)); have n0_ := Aside0.mk (Kd.R_elder' (by (with_reducible repeat (first | apply Kd.R_alloc | apply Kd.R_drewN | apply Kd.R_drew)); exact HO3.out) (Kd.R_base ho65) hb); have n1_ := Aside0.mk (Kd.R_elder' (by (with_reducible repeat (first | apply Kd.R_alloc | apply Kd.R_drewN | apply Kd.R_drew)); exact HO8.out) (Kd.R_base ho65) hb); have n2_ := Aside0.mk (Kd.R_elder' (by (with_reducible repeat (first | apply Kd.R_alloc | apply Kd.R_drewN | apply Kd.R_drew)); exact HO11.out) (Kd.R_base ho65) hb); have n3_ := Aside0.mk (Kd.R_lower (Kd.R_new' (Kd.R_new' (Kd.R_new' ho65 (Kd.R_lt (by (with_reducible repeat (first | apply Kd.R_alloc | apply Kd.R_drewN | apply Kd.R_drew)); exact HO3.out))) (Kd.R_lt (by (with_reducible repeat (first | apply Kd.R_alloc | apply Kd.R_drewN | apply Kd.R_drew)); exact HO8.out))) (Kd.R_lt (by (with_reducible repeat (first | apply Kd.R_alloc | apply Kd.R_drewN | apply Kd.R_drew)); exact HO11.out))) (below_size (by repeat (first | (with_reducible first | exact HB.out | apply below_alloc | apply pw_below_drewN | apply below_drew1 | refine below_set ?_ GE16.out) | exact HB.out)))); have n4_ := Aside0.mk (blk_below (g := gb16) (o := .cells #[.int .u32 t4, .int .i64 t5, .slice Ao60 t6.length co60, .slice Ao61 t9.length co61, .int .u32 t12, .int .u32 t13, .int .i64 t14, .int .u32 t15] 38 (0, 0)) (by (with_reducible repeat (first | refine blk_drewN ?_ _ | refine blk_drew ?_ | refine blk_alloc ?_ _)); exact BK16.out) hb); have n5_ := Aside0.mk (below_step (by repeat (first | (with_reducible first | exact HB.out | apply below_alloc | apply pw_below_drewN | apply below_drew1 | refine below_set ?_ GE16.out) | exact HB.out)) hb); clear HO3; clear HO8; clear HO11; clear BK16; clear HB; have HO3 := n0_; have HO8 := n1_; have HO11 := n2_; have HO21 := n3_; have BK16 := n4_; have HB := n5_; clear n0_ n1_ n2_ n3_ n4_ n5_; clear hb ho65; obtain ⟨Ao66, co66, eo66⟩ := Kd.R_slice HO21.out; subst eo66) | (go_at_call 55; (with_reducible refine (q16z.calls k _ _ t9 _ _ y19 true _ ?side1 ?side2 ?side3 ?side4 A4.out).mono ?_); (case side1 => repeat (first | exact (Kd.R_reads' HO11.out).2.2 | (with_reducible refine Kd.C_alloc ?_ _) | (with_reducible refine Kd.C_drewN ?_ _) | (with_reducible refine Kd.C_drew ?_))); (case side2 => exact (Kd.R_reads' HO11.out).2.1); (case side3 => repeat (first | exact (Kd.R_reads' HO21.out).2.2 | (with_reducible refine Kd.C_alloc ?_ _) | (with_reducible refine Kd.C_drewN ?_ _) | (with_reducible refine Kd.C_drew ?_))); (case side4 => exact (Kd.R_reads' HO21.out).2.1); rintro e w' ⟨rfl, ⟨nd, rfl⟩⟩) | ((with_reducible refine gate_dst (N := 16) rfl ?_); (try (refine gate_guard (by rfl) ?_; dsimp only)); refine Kd.R_lit (Kd.int .u32) _ 33 ?hg (N := 16) ?hd (xs := ([1] : List Int)) (inner := [.int .u32 1]) (ok := fun _ => True) (okp := fun _ => True) ?hr ?hp (fun _ hk => hk) trivial (Below.refl _ _) (Nat.le_refl _) (by simp) ?_; (case hd => rfl); (case hg => rfl); (case hr => first | (go_simp; done) | (go_simp; rfl)); (case hp => exact (Reps.one (show Kd.M (Kd.int .u32) _ _ _ 1 [.int .u32 1] from rfl) (Reps.none _ _))); intro v24 w67 ho68 hb hg_ hnew_; clear hg_ hnew_; (first | rw [← Ny23.out] at ho68 | (simp only [Int.reduceToNat] at ho68; rw [← Ny23.out] at ho68)); have n0_ := Aside0.mk (Kd.R_elder' (by (with_reducible repeat (first | apply Kd.R_alloc | apply Kd.R_drewN | apply Kd.R_drew)); exact HO3.out) (Kd.R_base ho68) hb); have n1_ := Aside0.mk (Kd.R_elder' (by (with_reducible repeat (first | apply Kd.R_alloc | apply Kd.R_drewN | apply Kd.R_drew)); exact HO8.out) (Kd.R_base ho68) hb); have n2_ := Aside0.mk (Kd.R_elder' (by (with_reducible repeat (first | apply Kd.R_alloc | apply Kd.R_drewN | apply Kd.R_drew)); exact HO11.out) (Kd.R_base ho68) hb); have n3_ := Aside0.mk (Kd.R_elder' (by (with_reducible repeat (first | apply Kd.R_alloc | apply Kd.R_drewN | apply Kd.R_drew)); exact HO21.out) (Kd.R_base ho68) hb); have n4_ := Aside0.mk (Kd.R_lower (Kd.R_new' (Kd.R_new' (Kd.R_new' (Kd.R_new' ho68 (Kd.R_lt (by (with_reducible repeat (first | apply Kd.R_alloc | apply Kd.R_drewN | apply Kd.R_drew)); exact HO3.out))) (Kd.R_lt (by (with_reducible repeat (first | apply Kd.R_alloc | apply Kd.R_drewN | apply Kd.R_drew)); exact HO8.out))) (Kd.R_lt (by (with_reducible repeat (first | apply Kd.R_alloc | apply Kd.R_drewN | apply Kd.R_drew)); exact HO11.out))) (Kd.R_lt (by (with_reducible repeat (first | apply Kd.R_alloc | apply Kd.R_drewN | apply Kd.R_drew)); exact HO21.out))) (below_size (by repeat (first | (with_reducible first | exact HB.out | apply below_alloc | apply pw_below_drewN | apply below_drew1 | refine below_set ?_ GE16.out) | exact HB.out)))); have n5_ := Aside0.mk (blk_below (g := gb16) (o := .cells #[.int .u32 t4, .int .i64 t5, .slice Ao60 t6.length co60, .slice Ao61 t9.length co61, .int .u32 t12, .int .u32 t13, .int .i64 t14, .int .u32 t15] 38 (0, 0)) (by (with_reducible repeat (first | refine blk_drewN ?_ _ | refine blk_drew ?_ | refine blk_alloc ?_ _)); exact BK16.out) hb); have n6_ := Aside0.mk (below_step (by repeat (first | (with_reducible first | exact HB.out | apply below_alloc | apply pw_below_drewN | apply below_drew1 | refine below_set ?_ GE16.out) | exact HB.out)) hb); clear HO3; clear HO8; clear HO11; clear HO21; clear BK16; clear HB; have HO3 := n0_; have HO8 := n1_; have HO11 := n2_; have HO21 := n3_; have HO25 := n4_; have BK16 := n5_; have HB := n6_; clear n0_ n1_ n2_ n3_ n4_ n5_ n6_; clear hb ho68; obtain ⟨Ao69, co69, eo69⟩ := Kd.R_slice HO25.out; subst eo69) | ((with_reducible refine gate_dst (N := 18) rfl ?_); (try (refine gate_guard (by rfl) ?_; dsimp only)); refine Kd.R_lit (Kd.int .u32) _ 33 ?hg (N := 18) ?hd (xs := ([1, 2] : List Int)) (inner := [.int .u32 1, .int .u32 2]) (ok := fun _ => True) (okp := fun _ => True) ?hr ?hp (fun _ hk => hk) trivial (Below.refl _ _) (Nat.le_refl _) (by simp) ?_; (case hd => rfl); (case hg => rfl); (case hr => first | (go_simp; done) | (go_simp; rfl)); (case hp => exact (Reps.one (show Kd.M (Kd.int .u32) _ _ _ 1 [.int .u32 1] from rfl) (Reps.one (show Kd.M (Kd.int .u32) _ _ _ 2 [.int .u32 2] from rfl) (Reps.none _ _)))); intro v27 w70 ho71 hb hg_ hnew_; clear hg_ hnew_; (first | rw [← Ny26.out] at ho71 | (simp only [Int.reduceToNat] at ho71; rw [← Ny26.out] at ho71)); have n0_ := Aside0.mk (Kd.R_elder' (by (with_reducible repeat (first | apply Kd.R_alloc | apply Kd.R_drewN | apply Kd.R_drew)); exact HO3.out) (Kd.R_base ho71) hb); have n1_ := Aside0.mk (Kd.R_elder' (by (with_reducible repeat (first | apply Kd.R_alloc | apply Kd.R_drewN | apply Kd.R_drew)); exact HO8.out) (Kd.R_base ho71) hb); have n2_ := Aside0.mk (Kd.R_elder' (by (with_reducible repeat (first | apply Kd.R_alloc | apply Kd.R_drewN | apply Kd.R_drew)); exact HO11.out) (Kd.R_base ho71) hb); have n3_ := Aside0.mk (Kd.R_elder' (by (with_reducible repeat (first | apply Kd.R_alloc | apply Kd.R_drewN | apply Kd.R_drew)); exact HO21.out) (Kd.R_base ho71) hb); have n4_ := Aside0.mk (Kd.R_elder' (by (with_reducible repeat (first | apply Kd.R_alloc | apply Kd.R_drewN | apply Kd.R_drew)); exact HO25.out) (Kd.R_base ho71) hb); have n5_ := Aside0.mk (Kd.R_lower (Kd.R_new' (Kd.R_new' (Kd.R_new' (Kd.R_new' (Kd.R_new' ho71 (Kd.R_lt (by (with_reducible repeat (first | apply Kd.R_alloc | apply Kd.R_drewN | apply Kd.R_drew)); exact HO3.out))) (Kd.R_lt (by (with_reducible repeat (first | apply Kd.R_alloc | apply Kd.R_drewN | apply Kd.R_drew)); exact HO8.out))) (Kd.R_lt (by (with_reducible repeat (first | apply Kd.R_alloc | apply Kd.R_drewN | apply Kd.R_drew)); exact HO11.out))) (Kd.R_lt (by (with_reducible repeat (first | apply Kd.R_alloc | apply Kd.R_drewN | apply Kd.R_drew)); exact HO21.out))) (Kd.R_lt (by (with_reducible repeat (first | apply Kd.R_alloc | apply Kd.R_drewN | apply Kd.R_drew)); exact HO25.out))) (below_size (by repeat (first | (with_reducible first | exact HB.out | apply below_alloc | apply pw_below_drewN | apply below_drew1 | refine below_set ?_ GE16.out) | exact HB.out)))); have n6_ := Aside0.mk (blk_below (g := gb16) (o := .cells #[.int .u32 t4, .int .i64 t5, .slice Ao60 t6.length co60, .slice Ao61 t9.length co61, .int .u32 t12, .int .u32 t13, .int .i64 t14, .int .u32 t15] 38 (0, 0)) (by (with_reducible repeat (first | refine blk_drewN ?_ _ | refine blk_drew ?_ | refine blk_alloc ?_ _)); exact BK16.out) hb); have n7_ := Aside0.mk (below_step (by repeat (first | (with_reducible first | exact HB.out | apply below_alloc | apply pw_below_drewN | apply below_drew1 | refine below_set ?_ GE16.out) | exact HB.out)) hb); clear HO3; clear HO8; clear HO11; clear HO21; clear HO25; clear BK16; clear HB; have HO3 := n0_; have HO8 := n1_; have HO11 := n2_; have HO21 := n3_; have HO25 := n4_; have HO28 := n5_; have BK16 := n6_; have HB := n7_; clear n0_ n1_ n2_ n3_ n4_ n5_ n6_ n7_; clear hb ho71; obtain ⟨Ao72, co72, eo72⟩ := Kd.R_slice HO28.out; subst eo72) | (go_at_call 40; (refine (q15z.calls k 0 0 _ _ y23 _ _ ([] : List Int) 0 0 0 0 0 0 _ _ y26 _ _ ([] : List Int) 0 0 0 0 t29 _ ?side1 ?side2 ?side3 ?side4 ?side5 ?side6 ?side7 ?side8 A6.out).mono ?_); (case side1 => repeat (first | exact (Kd.R_reads' HO25.out).2.2 | (with_reducible refine Kd.C_alloc ?_ _) | (with_reducible refine Kd.C_drewN ?_ _) | (with_reducible refine Kd.C_drew ?_))); (case side2 => exact (Kd.R_reads' HO25.out).2.1); (case side3 => exact Kd.C_nil _ _); (case side4 => exact Nat.le_refl _); (case side5 => repeat (first | exact (Kd.R_reads' HO28.out).2.2 | (with_reducible refine Kd.C_alloc ?_ _) | (with_reducible refine Kd.C_drewN ?_ _) | (with_reducible refine Kd.C_drew ?_))); (case side6 => exact (Kd.R_reads' HO28.out).2.1); (case side7 => exact Kd.C_nil _ _); (case side8 => exact Nat.le_refl _); rintro e w73 ⟨rfl, hb⟩; have n0_ := Aside0.mk (Kd.R_below (by (with_reducible repeat (first | apply Kd.R_alloc | apply Kd.R_drewN | apply Kd.R_drew)); exact HO3.out) hb); have n1_ := Aside0.mk (Kd.R_below (by (with_reducible repeat (first | apply Kd.R_alloc | apply Kd.R_drewN | apply Kd.R_drew)); exact HO8.out) hb); have n2_ := Aside0.mk (Kd.R_below (by (with_reducible repeat (first | apply Kd.R_alloc | apply Kd.R_drewN | apply Kd.R_drew)); exact HO11.out) hb); have n3_ := Aside0.mk (Kd.R_below (by (with_reducible repeat (first | apply Kd.R_alloc | apply Kd.R_drewN | apply Kd.R_drew)); exact HO21.out) hb); have n4_ := Aside0.mk (Kd.R_below (by (with_reducible repeat (first | apply Kd.R_alloc | apply Kd.R_drewN | apply Kd.R_drew)); exact HO25.out) hb); have n5_ := Aside0.mk (Kd.R_below (by (with_reducible repeat (first | apply Kd.R_alloc | apply Kd.R_drewN | apply Kd.R_drew)); exact HO28.out) hb); have n6_ := Aside0.mk (blk_below (g := gb16) (o := .cells #[.int .u32 t4, .int .i64 t5, .slice Ao60 t6.length co60, .slice Ao61 t9.length co61, .int .u32 t12, .int .u32 t13, .int .i64 t14, .int .u32 t15] 38 (0, 0)) (by (with_reducible repeat (first | refine blk_drewN ?_ _ | refine blk_drew ?_ | refine blk_alloc ?_ _)); exact BK16.out) hb); have n7_ := Aside0.mk (below_step (by repeat (first | (with_reducible first | exact HB.out | apply below_alloc | apply pw_below_drewN | apply below_drew1 | refine below_set ?_ GE16.out) | exact HB.out)) hb); clear HO3; clear HO8; clear HO11; clear HO21; clear HO25; clear HO28; clear BK16; clear HB; have HO3 := n0_; have HO8 := n1_; have HO11 := n2_; have HO21 := n3_; have HO25 := n4_; have HO28 := n5_; have BK16 := n6_; have HB := n7_; clear n0_ n1_ n2_ n3_ n4_ n5_ n6_ n7_; (try clear hb); (try clear hb2); (try clear hk); (try clear hi)))
    go_ret
    exact ⟨by first | rfl | (simp [errW_none, errW_some] <;> rfl) | (simp [*, errW_none, errW_some] <;> rfl), by repeat (first | (with_reducible first | exact HB.out | apply below_alloc | apply pw_below_drewN | apply below_drew1 | refine below_set ?_ GE16.out) | exact HB.out)⟩
  ·
   replace c5 := Bool.eq_false_iff.mpr c5
   subst c5
   have H1 : (some false) = some r := by rw [if_neg (show ¬ (false = true) by decide)] at H; exact H
   clear H
   have H := H1
   clear H1
   obtain rfl := Option.some.inj H
   go_enter Try.func29, Try.ntmps29
   go_wp2_with (first | ((with_reducible refine gate_dst (N := 2) rfl ?_); (try (refine gate_guard (by rfl) ?_; dsimp only)); refine Kd.R_lit (Kd.int .u32) _ 33 ?hg (N := 2) ?hd (xs := ([7, 3, 7] : List Int)) (inner := [.int .u32 7, .int .u32 3, .int .u32 7]) (ok := fun _ => True) (okp := fun _ => True) ?hr ?hp (fun _ hk => hk) trivial (Below.refl _ _) (Nat.le_refl _) (by simp) ?_; (case hd => rfl); (case hg => rfl); (case hr => first | (go_simp; done) | (go_simp; rfl)); (case hp => exact (Reps.one (show Kd.M (Kd.int .u32) _ _ _ 7 [.int .u32 7] from rfl) (Reps.one (show Kd.M (Kd.int .u32) _ _ _ 3 [.int .u32 3] from rfl) (Reps.one (show Kd.M (Kd.int .u32) _ _ _ 7 [.int .u32 7] from rfl) (Reps.none _ _))))); intro v2 w74 ho75 hb hg_ hnew_; clear hg_ hnew_; (first | rw [← Ny1.out] at ho75 | (simp only [Int.reduceToNat] at ho75; rw [← Ny1.out] at ho75)); have n0_ := Aside0.mk (Kd.R_lower ho75 (below_size (by repeat (first | (with_reducible first | exact HB.out | apply below_alloc | apply pw_below_drewN | apply below_drew1) | exact HB.out)))); have n1_ := Aside0.mk (below_step (by repeat (first | (with_reducible first | exact HB.out | apply below_alloc | apply pw_below_drewN | apply below_drew1) | exact HB.out)) hb); clear HB; have HO3 := n0_; have HB := n1_; clear n0_ n1_; clear hb ho75; obtain ⟨Ao76, co76, eo76⟩ := Kd.R_slice HO3.out; subst eo76) | ((with_reducible refine gate_callee (f := 36) rfl ?_); refine goesL_ (some 4) rfl rfl Try.func36 (by kernel_rfl) rfl #[.agg #[.int .u32 0, .int .i64 0, .slice none 0 0, .slice Ao76 y1.length co76, .int .u32 0, .int .u32 0, .int .i64 0, .int .u32 0]] rfl (by (try simp only [List.map_toArray, List.map_cons, List.map_nil]); first | done | rfl | (simp only [List.length_drop, List.length_take]; rfl)) ?_; (refine (q9z.calls k 0 0 _ _ ([] : List Int) _ _ y1 0 0 0 0 t4 t5 t6 t9 t12 t13 t14 t15 _ ?side1 ?side2 ?side3 ?side4 A1.out).mono ?_); (case side1 => exact Kd.C_nil _ _); (case side2 => exact Nat.le_refl _); (case side3 => repeat (first | exact (Kd.R_reads' HO3.out).2.2 | (with_reducible refine Kd.C_alloc ?_ _) | (with_reducible refine Kd.C_drewN ?_ _) | (with_reducible refine Kd.C_drew ?_))); (case side4 => exact (Kd.R_reads' HO3.out).2.1); rintro e w77 ⟨v7, v10, rfl, ho0, ho1, hb⟩; refine ⟨_, rfl, ?_⟩; have n0_ := Aside0.mk (Kd.R_mono (Kd.R_told (Kd.R_told (Kd.R_old (by (with_reducible repeat (first | apply Kd.R_alloc | apply Kd.R_drewN | apply Kd.R_drew)); exact HO3.out) hb) (Kd.R_base ho0)) (Kd.R_base ho1)) (fun _ h_ => h_.1)); have n1_ := Aside0.mk (Kd.R_lower (Kd.R_new' ho0 (Kd.R_lt (by (with_reducible repeat (first | apply Kd.R_alloc | apply Kd.R_drewN | apply Kd.R_drew)); exact HO3.out))) (below_size (by repeat (first | (with_reducible first | exact HB.out | apply below_alloc | apply pw_below_drewN | apply below_drew1) | exact HB.out)))); have n2_ := Aside0.mk (Kd.R_lower (Kd.R_new' ho1 (Kd.R_lt (by (with_reducible repeat (first | apply Kd.R_alloc | apply Kd.R_drewN | apply Kd.R_drew)); exact HO3.out))) (below_size (by repeat (first | (with_reducible first | exact HB.out | apply below_alloc | apply pw_below_drewN | apply below_drew1) | exact HB.out)))); have n3_ := Aside0.mk (below_step (by repeat (first | (with_reducible first | exact HB.out | apply below_alloc | apply pw_below_drewN | apply below_drew1) | exact HB.out)) hb); clear HO3; clear HB; have HO3 := n0_; have HO8 := n1_; have HO11 := n2_; have HB := n3_; clear n0_ n1_ n2_ n3_; (try clear hb); (try clear hb2); (try clear hk); (try clear hi); (try clear ho0); (try clear ho1)) | ((with_reducible refine gate_dst (N := 1) rfl ?_); (try (refine gate_guard (by rfl) ?_; dsimp only)); refine box_event ?hg (N := 1) ?hd (cs := #[.int .u32 0, .int .i64 0, .slice none 0 0, .slice none 0 0, .int .u32 0, .int .u32 0, .int .i64 0, .int .u32 0]) (t := 38) ?hr ?_; (case hd => rfl); (case hg => rfl); (case hr => first | (go_simp; done) | (go_simp; rfl)); intro gb16 hg w78 hbox hb; have n0_ := Aside0.mk (Kd.R_below (by (with_reducible repeat (first | apply Kd.R_alloc | apply Kd.R_drewN | apply Kd.R_drew)); exact HO3.out) hb); have n1_ := Aside0.mk (Kd.R_below (by (with_reducible repeat (first | apply Kd.R_alloc | apply Kd.R_drewN | apply Kd.R_drew)); exact HO8.out) hb); have n2_ := Aside0.mk (Kd.R_below (by (with_reducible repeat (first | apply Kd.R_alloc | apply Kd.R_drewN | apply Kd.R_drew)); exact HO11.out) hb); have n3_ := Aside0.mk (below_step (by repeat (first | (with_reducible first | exact HB.out | apply below_alloc | apply pw_below_drewN | apply below_drew1) | exact HB.out)) hb); have n4_ := Aside0.mk (hbox); have n5_ := Aside0.mk ((by rw [hg]; exact (below_size (by repeat (first | (with_reducible first | exact HB.out | apply below_alloc | apply pw_below_drewN | apply below_drew1) | exact HB.out))) : w.heap.size ≤ gb16)); have n6_ := Aside0.mk ((by rw [hg]; exact (below_size (by repeat (first | (with_reducible first | exact HB.out | apply below_alloc | apply pw_below_drewN | apply below_drew1) | exact HB.out))) : w.heap.size ≤ gb16)); clear HO3; clear HO8; clear HO11; clear HB; have HO3 := n0_; have HO8 := n1_; have HO11 := n2_; have HB := n3_; have BK16 := n4_; have GW16 := n5_; have GE16 := n6_; clear n0_ n1_ n2_ n3_ n4_ n5_ n6_; clear hb hbox hg; have hcz79_0 : w78.cell? ⟨gb16, 0, none⟩ = some (.int .u32 0) := (blk_cell BK16.out 0).trans rfl; have hcz79_1 : w78.cell? ⟨gb16, 1, none⟩ = some (.int .i64 0) := (blk_cell BK16.out 1).trans rfl; have hcz79_2 : w78.cell? ⟨gb16, 2, none⟩ = some (.slice none 0 0) := (blk_cell BK16.out 2).trans rfl; have hcz79_3 : w78.cell? ⟨gb16, 3, none⟩ = some (.slice none 0 0) := (blk_cell BK16.out 3).trans rfl; have hcz79_4 : w78.cell? ⟨gb16, 4, none⟩ = some (.int .u32 0) := (blk_cell BK16.out 4).trans rfl; have hcz79_5 : w78.cell? ⟨gb16, 5, none⟩ = some (.int .u32 0) := (blk_cell BK16.out 5).trans rfl; have hcz79_6 : w78.cell? ⟨gb16, 6, none⟩ = some (.int .i64 0) := (blk_cell BK16.out 6).trans rfl; have hcz79_7 : w78.cell? ⟨gb16, 7, none⟩ = some (.int .u32 0) := (blk_cell BK16.out 7).trans rfl; have hfz79_0 := blk_frozen BK16.out 0; have hfz79_1 := blk_frozen BK16.out 1; have hfz79_2 := blk_frozen BK16.out 2; have hfz79_3 := blk_frozen BK16.out 3; have hfz79_4 := blk_frozen BK16.out 4; have hfz79_5 := blk_frozen BK16.out 5; have hfz79_6 := blk_frozen BK16.out 6; have hfz79_7 := blk_frozen BK16.out 7; obtain ⟨Ao80, co80, eo80⟩ := Kd.R_slice HO8.out; subst eo80; obtain ⟨Ao81, co81, eo81⟩ := Kd.R_slice HO11.out; subst eo81) | ((with_reducible refine gate_callee (f := 32) rfl ?_); refine goesL_ (some 6) rfl rfl Try.func32 (by kernel_rfl) rfl #[.agg #[.int .u32 167838211, .int .i64 8]] rfl (by (try simp only [List.map_toArray, List.map_cons, List.map_nil]); first | done | rfl | (simp only [List.length_drop, List.length_take]; rfl)) ?_; (with_reducible refine (q1z.calls 167838211 8 t17 t18 _ A2.out).mono ?_); rintro e w82 ⟨rfl, hb⟩; refine ⟨_, rfl, ?_⟩; have n0_ := Aside0.mk (Kd.R_below (by (with_reducible repeat (first | apply Kd.R_alloc | apply Kd.R_drewN | apply Kd.R_drew)); exact (Kd.R_mono (Kd.R_far (p := ⟨gb16, 7, none⟩) (Kd.R_far (p := ⟨gb16, 6, none⟩) (Kd.R_far (p := ⟨gb16, 5, none⟩) (Kd.R_far (p := ⟨gb16, 4, none⟩) (Kd.R_far (p := ⟨gb16, 3, none⟩) (Kd.R_far (p := ⟨gb16, 2, none⟩) (Kd.R_far (p := ⟨gb16, 1, none⟩) (Kd.R_far (p := ⟨gb16, 0, none⟩) (Kd.R_types HO3.out BK16.out (by decide)) (fun _ hk => hk.2) (.int .u32 t4)) (fun _ hk => hk.2) (.int .i64 t5)) (fun _ hk => hk.2) (.slice Ao80 t6.length co80)) (fun _ hk => hk.2) (.slice Ao81 t9.length co81)) (fun _ hk => hk.2) (.int .u32 t12)) (fun _ hk => hk.2) (.int .u32 t13)) (fun _ hk => hk.2) (.int .i64 t14)) (fun _ hk => hk.2) (.int .u32 t15)) (fun _ h_ => h_.1))) hb); have n1_ := Aside0.mk (Kd.R_below (by (with_reducible repeat (first | apply Kd.R_alloc | apply Kd.R_drewN | apply Kd.R_drew)); exact (Kd.R_mono (Kd.R_far (p := ⟨gb16, 7, none⟩) (Kd.R_far (p := ⟨gb16, 6, none⟩) (Kd.R_far (p := ⟨gb16, 5, none⟩) (Kd.R_far (p := ⟨gb16, 4, none⟩) (Kd.R_far (p := ⟨gb16, 3, none⟩) (Kd.R_far (p := ⟨gb16, 2, none⟩) (Kd.R_far (p := ⟨gb16, 1, none⟩) (Kd.R_far (p := ⟨gb16, 0, none⟩) (Kd.R_types HO8.out BK16.out (by decide)) (fun _ hk => hk.2) (.int .u32 t4)) (fun _ hk => hk.2) (.int .i64 t5)) (fun _ hk => hk.2) (.slice Ao80 t6.length co80)) (fun _ hk => hk.2) (.slice Ao81 t9.length co81)) (fun _ hk => hk.2) (.int .u32 t12)) (fun _ hk => hk.2) (.int .u32 t13)) (fun _ hk => hk.2) (.int .i64 t14)) (fun _ hk => hk.2) (.int .u32 t15)) (fun _ h_ => h_.1))) hb); have n2_ := Aside0.mk (Kd.R_below (by (with_reducible repeat (first | apply Kd.R_alloc | apply Kd.R_drewN | apply Kd.R_drew)); exact (Kd.R_mono (Kd.R_far (p := ⟨gb16, 7, none⟩) (Kd.R_far (p := ⟨gb16, 6, none⟩) (Kd.R_far (p := ⟨gb16, 5, none⟩) (Kd.R_far (p := ⟨gb16, 4, none⟩) (Kd.R_far (p := ⟨gb16, 3, none⟩) (Kd.R_far (p := ⟨gb16, 2, none⟩) (Kd.R_far (p := ⟨gb16, 1, none⟩) (Kd.R_far (p := ⟨gb16, 0, none⟩) (Kd.R_types HO11.out BK16.out (by decide)) (fun _ hk => hk.2) (.int .u32 t4)) (fun _ hk => hk.2) (.int .i64 t5)) (fun _ hk => hk.2) (.slice Ao80 t6.length co80)) (fun _ hk => hk.2) (.slice Ao81 t9.length co81)) (fun _ hk => hk.2) (.int .u32 t12)) (fun _ hk => hk.2) (.int .u32 t13)) (fun _ hk => hk.2) (.int .i64 t14)) (fun _ hk => hk.2) (.int .u32 t15)) (fun _ h_ => h_.1))) hb); have n3_ := Aside0.mk (blk_below (g := gb16) (o := .cells #[.int .u32 t4, .int .i64 t5, .slice Ao80 t6.length co80, .slice Ao81 t9.length co81, .int .u32 t12, .int .u32 t13, .int .i64 t14, .int .u32 t15] 38 (0, 0)) (by (with_reducible repeat (first | refine blk_drewN ?_ _ | refine blk_drew ?_ | refine blk_alloc ?_ _)); refine blk_put (cs := #[.int .u32 t4, .int .i64 t5, .slice Ao80 t6.length co80, .slice Ao81 t9.length co81, .int .u32 t12, .int .u32 t13, .int .i64 t14, .int .u32 0]) ?_ 7 _ rfl; (with_reducible repeat (first | refine blk_drewN ?_ _ | refine blk_drew ?_ | refine blk_alloc ?_ _)); refine blk_put (cs := #[.int .u32 t4, .int .i64 t5, .slice Ao80 t6.length co80, .slice Ao81 t9.length co81, .int .u32 t12, .int .u32 t13, .int .i64 0, .int .u32 0]) ?_ 6 _ rfl; (with_reducible repeat (first | refine blk_drewN ?_ _ | refine blk_drew ?_ | refine blk_alloc ?_ _)); refine blk_put (cs := #[.int .u32 t4, .int .i64 t5, .slice Ao80 t6.length co80, .slice Ao81 t9.length co81, .int .u32 t12, .int .u32 0, .int .i64 0, .int .u32 0]) ?_ 5 _ rfl; (with_reducible repeat (first | refine blk_drewN ?_ _ | refine blk_drew ?_ | refine blk_alloc ?_ _)); refine blk_put (cs := #[.int .u32 t4, .int .i64 t5, .slice Ao80 t6.length co80, .slice Ao81 t9.length co81, .int .u32 0, .int .u32 0, .int .i64 0, .int .u32 0]) ?_ 4 _ rfl; (with_reducible repeat (first | refine blk_drewN ?_ _ | refine blk_drew ?_ | refine blk_alloc ?_ _)); refine blk_put (cs := #[.int .u32 t4, .int .i64 t5, .slice Ao80 t6.length co80, .slice none 0 0, .int .u32 0, .int .u32 0, .int .i64 0, .int .u32 0]) ?_ 3 _ rfl; (with_reducible repeat (first | refine blk_drewN ?_ _ | refine blk_drew ?_ | refine blk_alloc ?_ _)); refine blk_put (cs := #[.int .u32 t4, .int .i64 t5, .slice none 0 0, .slice none 0 0, .int .u32 0, .int .u32 0, .int .i64 0, .int .u32 0]) ?_ 2 _ rfl; (with_reducible repeat (first | refine blk_drewN ?_ _ | refine blk_drew ?_ | refine blk_alloc ?_ _)); refine blk_put (cs := #[.int .u32 t4, .int .i64 0, .slice none 0 0, .slice none 0 0, .int .u32 0, .int .u32 0, .int .i64 0, .int .u32 0]) ?_ 1 _ rfl; (with_reducible repeat (first | refine blk_drewN ?_ _ | refine blk_drew ?_ | refine blk_alloc ?_ _)); refine blk_put (cs := #[.int .u32 0, .int .i64 0, .slice none 0 0, .slice none 0 0, .int .u32 0, .int .u32 0, .int .i64 0, .int .u32 0]) ?_ 0 _ rfl; (with_reducible repeat (first | refine blk_drewN ?_ _ | refine blk_drew ?_ | refine blk_alloc ?_ _)); exact BK16.out) hb); have n4_ := Aside0.mk (below_step (by repeat (first | (with_reducible first | exact HB.out | apply below_alloc | apply pw_below_drewN | apply below_drew1 | refine below_set ?_ GE16.out) | exact HB.out)) hb); clear HO3; clear HO8; clear HO11; clear BK16; clear HB; have HO3 := n0_; have HO8 := n1_; have HO11 := n2_; have BK16 := n3_; have HB := n4_; clear n0_ n1_ n2_ n3_ n4_; (try clear hb); (try clear hb2); (try clear hk); (try clear hi); have hcz83_0 : w82.cell? ⟨gb16, 0, none⟩ = some (.int .u32 t4) := (blk_cell BK16.out 0).trans rfl; have hcz83_1 : w82.cell? ⟨gb16, 1, none⟩ = some (.int .i64 t5) := (blk_cell BK16.out 1).trans rfl; have hcz83_2 : w82.cell? ⟨gb16, 2, none⟩ = some (.slice Ao80 t6.length co80) := (blk_cell BK16.out 2).trans rfl; have hcz83_3 : w82.cell? ⟨gb16, 3, none⟩ = some (.slice Ao81 t9.length co81) := (blk_cell BK16.out 3).trans rfl; have hcz83_4 : w82.cell? ⟨gb16, 4, none⟩ = some (.int .u32 t12) := (blk_cell BK16.out 4).trans rfl; have hcz83_5 : w82.cell? ⟨gb16, 5, none⟩ = some (.int .u32 t13) := (blk_cell BK16.out 5).trans rfl; have hcz83_6 : w82.cell? ⟨gb16, 6, none⟩ = some (.int .i64 t14) := (blk_cell BK16.out 6).trans rfl; have hcz83_7 : w82.cell? ⟨gb16, 7, none⟩ = some (.int .u32 t15) := (blk_cell BK16.out 7).trans rfl; have hfz83_0 := blk_frozen BK16.out 0; have hfz83_1 := blk_frozen BK16.out 1; have hfz83_2 := blk_frozen BK16.out 2; have hfz83_3 := blk_frozen BK16.out 3; have hfz83_4 := blk_frozen BK16.out 4; have hfz83_5 := blk_frozen BK16.out 5; have hfz83_6 := blk_frozen BK16.out 6; have hfz83_7 := blk_frozen BK16.out 7) | ((with_reducible refine gate_dst (N := 12) rfl ?_); (try (refine gate_guard (by rfl) ?_; dsimp only)); refine Kd.R_lit (Kd.int .u32) _ 33 ?hg (N := 12) ?hd (xs := ([3, 7] : List Int)) (inner := [.int .u32 3, .int .u32 7]) (ok := fun _ => True) (okp := fun _ => True) ?hr ?hp (fun _ hk => hk) trivial (Below.refl _ _) (Nat.le_refl _) (by simp) ?_; (case hd => rfl); (case hg => rfl); (case hr => first | (go_simp; done) | (go_simp; rfl)); (case hp => exact (Reps.one (show Kd.M (Kd.int .u32) _ _ _ 3 [.int .u32 3] from rfl) (Reps.one (show Kd.M (Kd.int .u32) _ _ _ 7 [.int .u32 7] from rfl) (Reps.none _ _)))); intro v20 w84 ho85 hb hg_ hnew_; clear hg_ hnew_; (first | rw [← Ny19.out] at ho85 | (simp only [Int.reduceToNat] at ho85; rw [← Ny19.out] at ho85)); have n0_ := Aside0.mk (Kd.R_elder' (by (with_reducible repeat (first | apply Kd.R_alloc | apply Kd.R_drewN | apply Kd.R_drew)); exact HO3.out) (Kd.R_base ho85) hb); have n1_ := Aside0.mk (Kd.R_elder' (by (with_reducible repeat (first | apply Kd.R_alloc | apply Kd.R_drewN | apply Kd.R_drew)); exact HO8.out) (Kd.R_base ho85) hb); have n2_ := Aside0.mk (Kd.R_elder' (by (with_reducible repeat (first | apply Kd.R_alloc | apply Kd.R_drewN | apply Kd.R_drew)); exact HO11.out) (Kd.R_base ho85) hb); have n3_ := Aside0.mk (Kd.R_lower (Kd.R_new' (Kd.R_new' (Kd.R_new' ho85 (Kd.R_lt (by (with_reducible repeat (first | apply Kd.R_alloc | apply Kd.R_drewN | apply Kd.R_drew)); exact HO3.out))) (Kd.R_lt (by (with_reducible repeat (first | apply Kd.R_alloc | apply Kd.R_drewN | apply Kd.R_drew)); exact HO8.out))) (Kd.R_lt (by (with_reducible repeat (first | apply Kd.R_alloc | apply Kd.R_drewN | apply Kd.R_drew)); exact HO11.out))) (below_size (by repeat (first | (with_reducible first | exact HB.out | apply below_alloc | apply pw_below_drewN | apply below_drew1 | refine below_set ?_ GE16.out) | exact HB.out)))); have n4_ := Aside0.mk (blk_below (g := gb16) (o := .cells #[.int .u32 t4, .int .i64 t5, .slice Ao80 t6.length co80, .slice Ao81 t9.length co81, .int .u32 t12, .int .u32 t13, .int .i64 t14, .int .u32 t15] 38 (0, 0)) (by (with_reducible repeat (first | refine blk_drewN ?_ _ | refine blk_drew ?_ | refine blk_alloc ?_ _)); exact BK16.out) hb); have n5_ := Aside0.mk (below_step (by repeat (first | (with_reducible first | exact HB.out | apply below_alloc | apply pw_below_drewN | apply below_drew1 | refine below_set ?_ GE16.out) | exact HB.out)) hb); clear HO3; clear HO8; clear HO11; clear BK16; clear HB; have HO3 := n0_; have HO8 := n1_; have HO11 := n2_; have HO21 := n3_; have BK16 := n4_; have HB := n5_; clear n0_ n1_ n2_ n3_ n4_ n5_; clear hb ho85; obtain ⟨Ao86, co86, eo86⟩ := Kd.R_slice HO21.out; subst eo86) | (go_at_call 55; (with_reducible refine (q16z.calls k _ _ t9 _ _ y19 false _ ?side1 ?side2 ?side3 ?side4 A4.out).mono ?_); (case side1 => repeat (first | exact (Kd.R_reads' HO11.out).2.2 | (with_reducible refine Kd.C_alloc ?_ _) | (with_reducible refine Kd.C_drewN ?_ _) | (with_reducible refine Kd.C_drew ?_))); (case side2 => exact (Kd.R_reads' HO11.out).2.1); (case side3 => repeat (first | exact (Kd.R_reads' HO21.out).2.2 | (with_reducible refine Kd.C_alloc ?_ _) | (with_reducible refine Kd.C_drewN ?_ _) | (with_reducible refine Kd.C_drew ?_))); (case side4 => exact (Kd.R_reads' HO21.out).2.1); rintro e w' ⟨rfl, ⟨nd, rfl⟩⟩))
   go_ret
   exact ⟨by first | rfl | (simp [errW_none, errW_some] <;> rfl) | (simp [*, errW_none, errW_some] <;> rfl), by repeat (first | (with_reducible first | exact HB.out | apply below_alloc | apply pw_below_drewN | apply below_drew1 | refine below_set ?_ GE16.out) | exact HB.out)⟩
 ·
  rw [if_neg c3] at H
  have c3b0 : (t17 == 167772160 && (t18 == 8)) = false := by simpa using c3
  (try (have c3b1 : decide (t17 = 167772160 && (t18 == 8)) = false := by simpa using c3))
  (try (have c3b2 : (t17 == 167772160 && (t18 == 8)) = false := by simpa using c3))
  (try (have c3b3 : ¬ (t17 = 167772160 && (t18 == 8)) := by simpa using c3))
  clear c3
  obtain rfl := Option.some.inj H
  go_enter Try.func29, Try.ntmps29
  go_wp2_with (first | ((with_reducible refine gate_dst (N := 2) rfl ?_); (try (refine gate_guard (by rfl) ?_; dsimp only)); refine Kd.R_lit (Kd.int .u32) _ 33 ?hg (N := 2) ?hd (xs := ([7, 3, 7] : List Int)) (inner := [.int .u32 7, .int .u32 3, .int .u32 7]) (ok := fun _ => True) (okp := fun _ => True) ?hr ?hp (fun _ hk => hk) trivial (Below.refl _ _) (Nat.le_refl _) (by simp) ?_; (case hd => rfl); (case hg => rfl); (case hr => first | (go_simp; done) | (go_simp; rfl)); (case hp => exact (Reps.one (show Kd.M (Kd.int .u32) _ _ _ 7 [.int .u32 7] from rfl) (Reps.one (show Kd.M (Kd.int .u32) _ _ _ 3 [.int .u32 3] from rfl) (Reps.one (show Kd.M (Kd.int .u32) _ _ _ 7 [.int .u32 7] from rfl) (Reps.none _ _))))); intro v2 w87 ho88 hb hg_ hnew_; clear hg_ hnew_; (first | rw [← Ny1.out] at ho88 | (simp only [Int.reduceToNat] at ho88; rw [← Ny1.out] at ho88)); have n0_ := Aside0.mk (Kd.R_lower ho88 (below_size (by repeat (first | (with_reducible first | exact HB.out | apply below_alloc | apply pw_below_drewN | apply below_drew1) | exact HB.out)))); have n1_ := Aside0.mk (below_step (by repeat (first | (with_reducible first | exact HB.out | apply below_alloc | apply pw_below_drewN | apply below_drew1) | exact HB.out)) hb); clear HB; have HO3 := n0_; have HB := n1_; clear n0_ n1_; clear hb ho88; obtain ⟨Ao89, co89, eo89⟩ := Kd.R_slice HO3.out; subst eo89) | ((with_reducible refine gate_callee (f := 36) rfl ?_); refine goesL_ (some 4) rfl rfl Try.func36 (by kernel_rfl) rfl #[.agg #[.int .u32 0, .int .i64 0, .slice none 0 0, .slice Ao89 y1.length co89, .int .u32 0, .int .u32 0, .int .i64 0, .int .u32 0]] rfl (by (try simp only [List.map_toArray, List.map_cons, List.map_nil]); first | done | rfl | (simp only [List.length_drop, List.length_take]; rfl)) ?_; (refine (q9z.calls k 0 0 _ _ ([] : List Int) _ _ y1 0 0 0 0 t4 t5 t6 t9 t12 t13 t14 t15 _ ?side1 ?side2 ?side3 ?side4 A1.out).mono ?_); (case side1 => exact Kd.C_nil _ _); (case side2 => exact Nat.le_refl _); (case side3 => repeat (first | exact (Kd.R_reads' HO3.out).2.2 | (with_reducible refine Kd.C_alloc ?_ _) | (with_reducible refine Kd.C_drewN ?_ _) | (with_reducible refine Kd.C_drew ?_))); (case side4 => exact (Kd.R_reads' HO3.out).2.1); rintro e w90 ⟨v7, v10, rfl, ho0, ho1, hb⟩; refine ⟨_, rfl, ?_⟩; have n0_ := Aside0.mk (Kd.R_mono (Kd.R_told (Kd.R_told (Kd.R_old (by (with_reducible repeat (first | apply Kd.R_alloc | apply Kd.R_drewN | apply Kd.R_drew)); exact HO3.out) hb) (Kd.R_base ho0)) (Kd.R_base ho1)) (fun _ h_ => h_.1)); have n1_ := Aside0.mk (Kd.R_lower (Kd.R_new' ho0 (Kd.R_lt (by (with_reducible repeat (first | apply Kd.R_alloc | apply Kd.R_drewN | apply Kd.R_drew)); exact HO3.out))) (below_size (by repeat (first | (with_reducible first | exact HB.out | apply below_alloc | apply pw_below_drewN | apply below_drew1) | exact HB.out)))); have n2_ := Aside0.mk (Kd.R_lower (Kd.R_new' ho1 (Kd.R_lt (by (with_reducible repeat (first | apply Kd.R_alloc | apply Kd.R_drewN | apply Kd.R_drew)); exact HO3.out))) (below_size (by repeat (first | (with_reducible first | exact HB.out | apply below_alloc | apply pw_below_drewN | apply below_drew1) | exact HB.out)))); have n3_ := Aside0.mk (below_step (by repeat (first | (with_reducible first | exact HB.out | apply below_alloc | apply pw_below_drewN | apply below_drew1) | exact HB.out)) hb); clear HO3; clear HB; have HO3 := n0_; have HO8 := n1_; have HO11 := n2_; have HB := n3_; clear n0_ n1_ n2_ n3_; (try clear hb); (try clear hb2); (try clear hk); (try clear hi); (try clear ho0); (try clear ho1)) | ((with_reducible refine gate_dst (N := 1) rfl ?_); (try (refine gate_guard (by rfl) ?_; dsimp only)); refine box_event ?hg (N := 1) ?hd (cs := #[.int .u32 0, .int .i64 0, .slice none 0 0, .slice none 0 0, .int .u32 0, .int .u32 0, .int .i64 0, .int .u32 0]) (t := 38) ?hr ?_; (case hd => rfl); (case hg => rfl); (case hr => first | (go_simp; done) | (go_simp; rfl)); intro gb16 hg w91 hbox hb; have n0_ := Aside0.mk (Kd.R_below (by (with_reducible repeat (first | apply Kd.R_alloc | apply Kd.R_drewN | apply Kd.R_drew)); exact HO3.out) hb); have n1_ := Aside0.mk (Kd.R_below (by (with_reducible repeat (first | apply Kd.R_alloc | apply Kd.R_drewN | apply Kd.R_drew)); exact HO8.out) hb); have n2_ := Aside0.mk (Kd.R_below (by (with_reducible repeat (first | apply Kd.R_alloc | apply Kd.R_drewN | apply Kd.R_drew)); exact HO11.out) hb); have n3_ := Aside0.mk (below_step (by repeat (first | (with_reducible first | exact HB.out | apply below_alloc | apply pw_below_drewN | apply below_drew1) | exact HB.out)) hb); have n4_ := Aside0.mk (hbox); have n5_ := Aside0.mk ((by rw [hg]; exact (below_size (by repeat (first | (with_reducible first | exact HB.out | apply below_alloc | apply pw_below_drewN | apply below_drew1) | exact HB.out))) : w.heap.size ≤ gb16)); have n6_ := Aside0.mk ((by rw [hg]; exact (below_size (by repeat (first | (with_reducible first | exact HB.out | apply below_alloc | apply pw_below_drewN | apply below_drew1) | exact HB.out))) : w.heap.size ≤ gb16)); clear HO3; clear HO8; clear HO11; clear HB; have HO3 := n0_; have HO8 := n1_; have HO11 := n2_; have HB := n3_; have BK16 := n4_; have GW16 := n5_; have GE16 := n6_; clear n0_ n1_ n2_ n3_ n4_ n5_ n6_; clear hb hbox hg; have hcz92_0 : w91.cell? ⟨gb16, 0, none⟩ = some (.int .u32 0) := (blk_cell BK16.out 0).trans rfl; have hcz92_1 : w91.cell? ⟨gb16, 1, none⟩ = some (.int .i64 0) := (blk_cell BK16.out 1).trans rfl; have hcz92_2 : w91.cell? ⟨gb16, 2, none⟩ = some (.slice none 0 0) := (blk_cell BK16.out 2).trans rfl; have hcz92_3 : w91.cell? ⟨gb16, 3, none⟩ = some (.slice none 0 0) := (blk_cell BK16.out 3).trans rfl; have hcz92_4 : w91.cell? ⟨gb16, 4, none⟩ = some (.int .u32 0) := (blk_cell BK16.out 4).trans rfl; have hcz92_5 : w91.cell? ⟨gb16, 5, none⟩ = some (.int .u32 0) := (blk_cell BK16.out 5).trans rfl; have hcz92_6 : w91.cell? ⟨gb16, 6, none⟩ = some (.int .i64 0) := (blk_cell BK16.out 6).trans rfl; have hcz92_7 : w91.cell? ⟨gb16, 7, none⟩ = some (.int .u32 0) := (blk_cell BK16.out 7).trans rfl; have hfz92_0 := blk_frozen BK16.out 0; have hfz92_1 := blk_frozen BK16.out 1; have hfz92_2 := blk_frozen BK16.out 2; have hfz92_3 := blk_frozen BK16.out 3; have hfz92_4 := blk_frozen BK16.out 4; have hfz92_5 := blk_frozen BK16.out 5; have hfz92_6 := blk_frozen BK16.out 6; have hfz92_7 := blk_frozen BK16.out 7; obtain ⟨Ao93, co93, eo93⟩ := Kd.R_slice HO8.out; subst eo93; obtain ⟨Ao94, co94, eo94⟩ := Kd.R_slice HO11.out; subst eo94) | ((with_reducible refine gate_callee (f := 32) rfl ?_); refine goesL_ (some 6) rfl rfl Try.func32 (by kernel_rfl) rfl #[.agg #[.int .u32 167838211, .int .i64 8]] rfl (by (try simp only [List.map_toArray, List.map_cons, List.map_nil]); first | done | rfl | (simp only [List.length_drop, List.length_take]; rfl)) ?_; (with_reducible refine (q1z.calls 167838211 8 t17 t18 _ A2.out).mono ?_); rintro e w95 ⟨rfl, hb⟩; refine ⟨_, rfl, ?_⟩; have n0_ := Aside0.mk (Kd.R_below (by (with_reducible repeat (first | apply Kd.R_alloc | apply Kd.R_drewN | apply Kd.R_drew)); exact (Kd.R_mono (Kd.R_far (p := ⟨gb16, 7, none⟩) (Kd.R_far (p := ⟨gb16, 6, none⟩) (Kd.R_far (p := ⟨gb16, 5, none⟩) (Kd.R_far (p := ⟨gb16, 4, none⟩) (Kd.R_far (p := ⟨gb16, 3, none⟩) (Kd.R_far (p := ⟨gb16, 2, none⟩) (Kd.R_far (p := ⟨gb16, 1, none⟩) (Kd.R_far (p := ⟨gb16, 0, none⟩) (Kd.R_types HO3.out BK16.out (by decide)) (fun _ hk => hk.2) (.int .u32 t4)) (fun _ hk => hk.2) (.int .i64 t5)) (fun _ hk => hk.2) (.slice Ao93 t6.length co93)) (fun _ hk => hk.2) (.slice Ao94 t9.length co94)) (fun _ hk => hk.2) (.int .u32 t12)) (fun _ hk => hk.2) (.int .u32 t13)) (fun _ hk => hk.2) (.int .i64 t14)) (fun _ hk => hk.2) (.int .u32 t15)) (fun _ h_ => h_.1))) hb); have n1_ := Aside0.mk (Kd.R_below (by (with_reducible repeat (first | apply Kd.R_alloc | apply Kd.R_drewN | apply Kd.R_drew)); exact (Kd.R_mono (Kd.R_far (p := ⟨gb16, 7, none⟩) (Kd.R_far (p := ⟨gb16, 6, none⟩) (Kd.R_far (p := ⟨gb16, 5, none⟩) (Kd.R_far (p := ⟨gb16, 4, none⟩) (Kd.R_far (p := ⟨gb16, 3, none⟩) (Kd.R_far (p := ⟨gb16, 2, none⟩) (Kd.R_far (p := ⟨gb16, 1, none⟩) (Kd.R_far (p := ⟨gb16, 0, none⟩) (Kd.R_types HO8.out BK16.out (by decide)) (fun _ hk => hk.2) (.int .u32 t4)) (fun _ hk => hk.2) (.int .i64 t5)) (fun _ hk => hk.2) (.slice Ao93 t6.length co93)) (fun _ hk => hk.2) (.slice Ao94 t9.length co94)) (fun _ hk => hk.2) (.int .u32 t12)) (fun _ hk => hk.2) (.int .u32 t13)) (fun _ hk => hk.2) (.int .i64 t14)) (fun _ hk => hk.2) (.int .u32 t15)) (fun _ h_ => h_.1))) hb); have n2_ := Aside0.mk (Kd.R_below (by (with_reducible repeat (first | apply Kd.R_alloc | apply Kd.R_drewN | apply Kd.R_drew)); exact (Kd.R_mono (Kd.R_far (p := ⟨gb16, 7, none⟩) (Kd.R_far (p := ⟨gb16, 6, none⟩) (Kd.R_far (p := ⟨gb16, 5, none⟩) (Kd.R_far (p := ⟨gb16, 4, none⟩) (Kd.R_far (p := ⟨gb16, 3, none⟩) (Kd.R_far (p := ⟨gb16, 2, none⟩) (Kd.R_far (p := ⟨gb16, 1, none⟩) (Kd.R_far (p := ⟨gb16, 0, none⟩) (Kd.R_types HO11.out BK16.out (by decide)) (fun _ hk => hk.2) (.int .u32 t4)) (fun _ hk => hk.2) (.int .i64 t5)) (fun _ hk => hk.2) (.slice Ao93 t6.length co93)) (fun _ hk => hk.2) (.slice Ao94 t9.length co94)) (fun _ hk => hk.2) (.int .u32 t12)) (fun _ hk => hk.2) (.int .u32 t13)) (fun _ hk => hk.2) (.int .i64 t14)) (fun _ hk => hk.2) (.int .u32 t15)) (fun _ h_ => h_.1))) hb); have n3_ := Aside0.mk (blk_below (g := gb16) (o := .cells #[.int .u32 t4, .int .i64 t5, .slice Ao93 t6.length co93, .slice Ao94 t9.length co94, .int .u32 t12, .int .u32 t13, .int .i64 t14, .int .u32 t15] 38 (0, 0)) (by (with_reducible repeat (first | refine blk_drewN ?_ _ | refine blk_drew ?_ | refine blk_alloc ?_ _)); refine blk_put (cs := #[.int .u32 t4, .int .i64 t5, .slice Ao93 t6.length co93, .slice Ao94 t9.length co94, .int .u32 t12, .int .u32 t13, .int .i64 t14, .int .u32 0]) ?_ 7 _ rfl; (with_reducible repeat (first | refine blk_drewN ?_ _ | refine blk_drew ?_ | refine blk_alloc ?_ _)); refine blk_put (cs := #[.int .u32 t4, .int .i64 t5, .slice Ao93 t6.length co93, .slice Ao94 t9.length co94, .int .u32 t12, .int .u32 t13, .int .i64 0, .int .u32 0]) ?_ 6 _ rfl; (with_reducible repeat (first | refine blk_drewN ?_ _ | refine blk_drew ?_ | refine blk_alloc ?_ _)); refine blk_put (cs := #[.int .u32 t4, .int .i64 t5, .slice Ao93 t6.length co93, .slice Ao94 t9.length co94, .int .u32 t12, .int .u32 0, .int .i64 0, .int .u32 0]) ?_ 5 _ rfl; (with_reducible repeat (first | refine blk_drewN ?_ _ | refine blk_drew ?_ | refine blk_alloc ?_ _)); refine blk_put (cs := #[.int .u32 t4, .int .i64 t5, .slice Ao93 t6.length co93, .slice Ao94 t9.length co94, .int .u32 0, .int .u32 0, .int .i64 0, .int .u32 0]) ?_ 4 _ rfl; (with_reducible repeat (first | refine blk_drewN ?_ _ | refine blk_drew ?_ | refine blk_alloc ?_ _)); refine blk_put (cs := #[.int .u32 t4, .int .i64 t5, .slice Ao93 t6.length co93, .slice none 0 0, .int .u32 0, .int .u32 0, .int .i64 0, .int .u32 0]) ?_ 3 _ rfl; (with_reducible repeat (first | refine blk_drewN ?_ _ | refine blk_drew ?_ | refine blk_alloc ?_ _)); refine blk_put (cs := #[.int .u32 t4, .int .i64 t5, .slice none 0 0, .slice none 0 0, .int .u32 0, .int .u32 0, .int .i64 0, .int .u32 0]) ?_ 2 _ rfl; (with_reducible repeat (first | refine blk_drewN ?_ _ | refine blk_drew ?_ | refine blk_alloc ?_ _)); refine blk_put (cs := #[.int .u32 t4, .int .i64 0, .slice none 0 0, .slice none 0 0, .int .u32 0, .int .u32 0, .int .i64 0, .int .u32 0]) ?_ 1 _ rfl; (with_reducible repeat (first | refine blk_drewN ?_ _ | refine blk_drew ?_ | refine blk_alloc ?_ _)); refine blk_put (cs := #[.int .u32 0, .int .i64 0, .slice none 0 0, .slice none 0 0, .int .u32 0, .int .u32 0, .int .i64 0, .int .u32 0]) ?_ 0 _ rfl; (with_reducible repeat (first | refine blk_drewN ?_ _ | refine blk_drew ?_ | refine blk_alloc ?_ _)); exact BK16.out) hb); have n4_ := Aside0.mk (below_step (by repeat (first | (with_reducible first | exact HB.out | apply below_alloc | apply pw_below_drewN | apply below_drew1 | refine below_set ?_ GE16.out) | exact HB.out)) hb); clear HO3; clear HO8; clear HO11; clear BK16; clear HB; have HO3 := n0_; have HO8 := n1_; have HO11 := n2_; have BK16 := n3_; have HB := n4_; clear n0_ n1_ n2_ n3_ n4_; (try clear hb); (try clear hb2); (try clear hk); (try clear hi)))
  go_ret
  exact ⟨by first | rfl | (simp [errW_none, errW_some] <;> rfl) | (simp [*, errW_none, errW_some] <;> rfl), by repeat (first | (with_reducible first | exact HB.out | apply below_alloc | apply pw_below_drewN | apply below_drew1 | refine below_set ?_ GE16.out) | exact HB.out)⟩

end Go.Proofs.Ythekledcoeeheaa.P

namespace Go.Proofs.Ythekledcoeeheaa.P
open Go.RowKit Go.Proofs.YthekledcoeeheaaW.PrintWords Go.Proofs.YthekledcoeeheaaW.PrintLast Go.Proofs.YthekledcoeeheaaW.PrintMore
attribute [local go_sem] max2_int min2_int max_two min_two max_three min_three max_four min_four
set_option linter.unusedVariables false
set_option linter.unusedSimpArgs false

/-! ### dragomanref03_Mask: function 33 -/
def q18z.l0 : Nat → Int → Int → Int → Int → Int → Option (Int × Int)
 | 0, _, _, _, _, _ => none
 | k + 1, x3, x4, x5, x2000, x2001 => if x5 < 32 then (q18z.l0 k x3 (IntKind.u64.wrap (2 * x4)) (wrap64 (x5 + 1)) x2000 x2001) else (if x4 = 0 then (none) else (some ((IntKind.u64.wrap ((IntKind.u64.wrap (Int.tdiv (IntKind.u64.wrap (x2000)) x4)) * x4)) % 4294967296, x3)))
def q18z.f (k : Nat) (a0_0 : Int) (a0_1 : Int) : Option (Int × Int) := q18z.l0 k (mx 0 (mn a0_1 32)) 1 (mx 0 (mn a0_1 32)) a0_0 a0_1
theorem q18z.mono_l : ∀ k, (∀ y0 y1 y2 y3 y4, LeO (q18z.l0 k y0 y1 y2 y3 y4) (q18z.l0 (k + 1) y0 y1 y2 y3 y4))
 | 0 => fun _ _ _ _ _ r h => by simp [q18z.l0] at h
 | k + 1 => by
  have ih0 := q18z.mono_l k
  ·
   intro y0 y1 y2 y3 y4
   unfold q18z.l0
   repeat' first
   | (with_reducible exact ih0 _ _ _ _ _)
   | (with_reducible exact LeO.refl _)
   | (with_reducible exact LeO.none _)
   | (with_reducible refine LeO.ite ?_ ?_)
   | (with_reducible refine LeO.bind ?_ (fun _ => ?_))
   | exact ih0 _ _ _ _ _
   | exact LeO.none _
   | refine LeO.ite ?_ ?_
   | refine LeO.bind ?_ (fun _ => ?_)
theorem q18z.mono : ∀ a0 a1 k, LeO (q18z.f k a0 a1) (q18z.f (k + 1) a0 a1) := by
 intro a0 a1 k
 have ih0 := q18z.mono_l k
 unfold q18z.f
 repeat' first
   | (with_reducible exact ih0 _ _ _ _ _)
   | (with_reducible exact LeO.refl _)
   | (with_reducible exact LeO.none _)
   | (with_reducible refine LeO.ite ?_ ?_)
   | (with_reducible refine LeO.bind ?_ (fun _ => ?_))
   | exact ih0 _ _ _ _ _
   | exact LeO.none _
   | refine LeO.ite ?_ ?_
   | refine LeO.bind ?_ (fun _ => ?_)
set_option maxHeartbeats 8000000 in
set_option maxRecDepth 100000 in
theorem q18z.calls (k : Nat) (a0_0 : Int) (a0_1 : Int) (r1 : Int) (r2 : Int) (w : World) (h : q18z.f k a0_0 a0_1 = some (r1, r2)) :
  Calls Try.prog 33 #[.agg #[.int .u32 a0_0, .int .i64 a0_1]] w fun e w' => e = .returned (.agg #[.int .u32 r1, .int .i64 r2]) ∧ Below w.heap.size w w' := by
 have hu35 := Try.underlying35
 have HB := Aside0.mk (Below.refl w.heap.size w)
 have H : (q18z.l0 k (mx 0 (mn a0_1 32)) 1 (mx 0 (mn a0_1 32)) a0_0 a0_1) = some (r1, r2) := h
 clear h
 obtain ⟨ji2, hji2⟩ : ∃ j_ : Int, (mn a0_1 32) = j_ := ⟨_, rfl⟩
 replace H : (q18z.l0 k (mx 0 (ji2)) 1 (mx 0 (ji2)) a0_0 a0_1) = some (r1, r2) := by first | (rw [hji2] at H; exact H) | (simp only [hji2] at H ⊢; exact H)
 (try (have hji2h : ji2 ≤ 32 := by (rw [← hji2]; unfold mn; (repeat' split) <;> omega)))
 (try (have hji2g : ji2 ≤ 64 := by omega))
 have hji2_ : (if 32 < a0_1 then 32 else a0_1) = ji2 := hji2
 obtain ⟨ji3, hji3⟩ : ∃ j_ : Int, (mx 0 (ji2)) = j_ := ⟨_, rfl⟩
 replace H : (q18z.l0 k ji3 1 ji3 a0_0 a0_1) = some (r1, r2) := by first | (rw [hji3] at H; exact H) | (simp only [hji3] at H ⊢; exact H)
 have hji3_ : (if 0 < (ji2) then (ji2) else 0) = ji3 := hji3
 have H' := Aside0.mk H
 clear H
 go_enter Try.func33, Try.ntmps33
 go_wp2_with (first | ((with_reducible refine gate_dst (N := 1) rfl ?_); refine box_event ?hg (N := 1) ?hd (cs := #[.int .u32 a0_0, .int .i64 a0_1]) (t := 35) ?hr ?_; (case hd => rfl); (case hg => rfl); (case hr => first | (go_simp; done) | (go_simp; rfl)); intro gb1 hg w4 hbox hb; have n0_ := Aside0.mk (below_step (by repeat (first | (with_reducible first | exact HB.out | apply below_alloc | apply pw_below_drewN | apply below_drew1) | exact HB.out)) hb); have n1_ := Aside0.mk (hbox); have n2_ := Aside0.mk ((by rw [hg]; exact (below_size (by repeat (first | (with_reducible first | exact HB.out | apply below_alloc | apply pw_below_drewN | apply below_drew1) | exact HB.out))) : w.heap.size ≤ gb1)); have n3_ := Aside0.mk ((by rw [hg]; exact (below_size (by repeat (first | (with_reducible first | exact HB.out | apply below_alloc | apply pw_below_drewN | apply below_drew1) | exact HB.out))) : w.heap.size ≤ gb1)); clear HB; have HB := n0_; have BK1 := n1_; have GW1 := n2_; have GE1 := n3_; clear n0_ n1_ n2_ n3_; clear hb hbox hg) | ((with_reducible refine gate_dst (N := 2) rfl ?_); refine box_event ?hg (N := 2) ?hd (cs := #[.int .u32 0, .int .i64 0]) (t := 35) ?hr ?_; (case hd => rfl); (case hg => rfl); (case hr => first | (go_simp; done) | (go_simp; rfl)); intro gb2 hg w5 hbox hb; have n0_ := Aside0.mk (blk_below (g := gb1) (o := .cells #[.int .u32 a0_0, .int .i64 a0_1] 35 (0, 0)) (by (with_reducible repeat (first | refine blk_drewN ?_ _ | refine blk_drew ?_ | refine blk_alloc ?_ _)); exact BK1.out) hb); have n1_ := Aside0.mk (below_step (by repeat (first | (with_reducible first | exact HB.out | apply below_alloc | apply pw_below_drewN | apply below_drew1 | refine below_set ?_ GE1.out) | exact HB.out)) hb); have n2_ := Aside0.mk (hbox); have n3_ := Aside0.mk ((by rw [hg]; exact (below_size (by repeat (first | (with_reducible first | exact HB.out | apply below_alloc | apply pw_below_drewN | apply below_drew1 | refine below_set ?_ GE1.out) | exact HB.out))) : w.heap.size ≤ gb2)); have n4_ := Aside0.mk ((by rw [hg]; exact (below_size (by repeat (first | (with_reducible first | exact HB.out | apply below_alloc | apply pw_below_drewN | apply below_drew1 | refine below_set ?_ GE1.out) | exact HB.out))) : w.heap.size ≤ gb2)); have n5_ := Aside0.mk ((by rw [hg]; exact Nat.ne_of_lt (blk_lt (g := gb1) (o := .cells #[.int .u32 a0_0, .int .i64 a0_1] 35 (0, 0)) (by (with_reducible repeat (first | refine blk_drewN ?_ _ | refine blk_drew ?_ | refine blk_alloc ?_ _)); exact BK1.out)) : gb1 ≠ gb2)); have n6_ := Aside0.mk ((by rw [hg]; exact Nat.ne_of_gt (blk_lt (g := gb1) (o := .cells #[.int .u32 a0_0, .int .i64 a0_1] 35 (0, 0)) (by (with_reducible repeat (first | refine blk_drewN ?_ _ | refine blk_drew ?_ | refine blk_alloc ?_ _)); exact BK1.out)) : gb2 ≠ gb1)); clear BK1; clear HB; have BK1 := n0_; have HB := n1_; have BK2 := n2_; have GW2 := n3_; have GE2 := n4_; have NB1_2 := n5_; have NB2_1 := n6_; clear n0_ n1_ n2_ n3_ n4_ n5_ n6_; clear hb hbox hg; have hnb6 := NB1_2.out; have hnc6 := NB2_1.out; have hcz7_0 : w5.cell? ⟨gb1, 0, none⟩ = some (.int .u32 a0_0) := (blk_cell BK1.out 0).trans rfl; have hcz7_1 : w5.cell? ⟨gb1, 1, none⟩ = some (.int .i64 a0_1) := (blk_cell BK1.out 1).trans rfl; have hfz7_0 := blk_frozen BK1.out 0; have hfz7_1 := blk_frozen BK1.out 1))
 go_loopg [4, 5] k (fun kq v4 v5 w' => ∃ (x4_1 : Int) (x5_1 : Int), v4 = .int .u64 x4_1 ∧ v5 = .int .i64 x5_1 ∧ Aside0 (q18z.l0 kq ji3 x4_1 x5_1 a0_0 a0_1 = some (r1, r2)) ∧ Aside0 (kq ≤ k) ∧ Aside0 (w'.heap[gb1]? = some (.cells #[.int .u32 a0_0, .int .i64 a0_1] 35 (0, 0))) ∧ Aside0 (w'.heap[gb2]? = some (.cells #[.int .u32 0, .int .i64 0] 35 (0, 0))) ∧ Aside0 (Below w.heap.size w w'))
 case atStart => exact ⟨(1), (ji3), (by first | rfl | (simp; done) | (simp [*]; done)), (by first | rfl | (simp; done) | (simp only [← hji3] <;> (first | rfl | simp)) | (simp [*]; done)), H', ⟨Nat.le_refl _⟩, ⟨by (with_reducible repeat (first | refine blk_drewN ?_ _ | refine blk_drew ?_ | refine blk_alloc ?_ _)); exact BK1.out⟩, ⟨by (with_reducible repeat (first | refine blk_drewN ?_ _ | refine blk_drew ?_ | refine blk_alloc ?_ _)); exact BK2.out⟩, ⟨by repeat (first | (with_reducible first | exact HB.out | apply below_alloc | apply pw_below_drewN | apply below_drew1 | refine below_set ?_ GE1.out | refine below_set ?_ GE2.out) | exact HB.out)⟩⟩
 case round =>
  clear H'
  try clear p2
  try clear c3
  try clear c6
  try clear hcz7_0
  try clear hcz7_1
  try clear hfz7_0
  try clear hfz7_1
  obtain ⟨x4_1, x5_1, rfl, rfl, HA, HK1, BK1, BK2, HB⟩ := hrel
  cases gk with
  | zero => exact absurd HA.out (by simp [q18z.l0])
  | succ k1 =>
   have H := HA.out
   clear HA
   simp only [q18z.l0] at H
   by_cases c8 : x5_1 < 32
   ·
    rw [if_pos c8] at H
    have c8b0 : decide (x5_1 < 32) = true := decide_eq_true c8
    clear c8
    have H' := Aside0.mk H
    clear H
    go_wp2
    go_roundg k1
    case measure => have := HK1.out; omega
    case rel => exact ⟨(IntKind.u64.wrap (2 * x4_1)), (wrap64 (x5_1 + 1)), (by first | rfl | (simp; done) | (simp [*]; done)), (by first | rfl | (simp; done) | (simp [*]; done)), H', ⟨by have := HK1.out; omega⟩, ⟨by (with_reducible repeat (first | refine blk_drewN ?_ _ | refine blk_drew ?_ | refine blk_alloc ?_ _)); exact BK1.out⟩, ⟨by (with_reducible repeat (first | refine blk_drewN ?_ _ | refine blk_drew ?_ | refine blk_alloc ?_ _)); exact BK2.out⟩, ⟨by repeat (first | (with_reducible first | exact HB.out | apply below_alloc | apply pw_below_drewN | apply below_drew1 | refine below_set ?_ GE1.out | refine below_set ?_ GE2.out) | exact HB.out)⟩⟩
   ·
    rw [if_neg c8] at H
    have c8b0 : decide (x5_1 < 32) = false := decide_eq_false c8
    clear c8
    by_cases c9 : x4_1 = 0
    ·
     rw [if_pos c9] at H
     exact absurd H (by simp)
    ·
     rw [if_neg c9] at H
     have c9b0 : (x4_1 == 0) = false := beq_eq_false_iff_ne.mpr c9
     have c9b1 : (x4_1 != 0) = true := bne_iff_ne.mpr c9
     simp only [Option.some.injEq, Prod.mk.injEq] at H
     obtain ⟨rfl, rfl⟩ := H
     have hnb10 := NB1_2.out
     have hnc10 := NB2_1.out
     have hcz11_0 : wr.cell? ⟨gb1, 0, none⟩ = some (.int .u32 a0_0) := (blk_cell BK1.out 0).trans rfl
     have hcz11_1 : wr.cell? ⟨gb1, 1, none⟩ = some (.int .i64 a0_1) := (blk_cell BK1.out 1).trans rfl
     have hfz11_0 := blk_frozen BK1.out 0
     have hfz11_1 := blk_frozen BK1.out 1
     have hcz12_0 : wr.cell? ⟨gb2, 0, none⟩ = some (.int .u32 0) := (blk_cell BK2.out 0).trans rfl
     have hcz12_1 : wr.cell? ⟨gb2, 1, none⟩ = some (.int .i64 0) := (blk_cell BK2.out 1).trans rfl
     have hfz12_0 := blk_frozen BK2.out 0
     have hfz12_1 := blk_frozen BK2.out 1
     go_wp2
     refine bodyPost_ret (results_cell_row rfl _ _ gb2 35 #[.int .u32 ((IntKind.u64.wrap ((IntKind.u64.wrap (Int.tdiv (IntKind.u64.wrap (a0_0)) x4_1)) * x4_1)) % 4294967296), .int .i64 ji3] (0, 0) _ rfl (by (with_reducible repeat (first | refine blk_drewN ?_ _ | refine blk_drew ?_ | refine blk_alloc ?_ _)); refine blk_put (cs := #[.int .u32 ((IntKind.u64.wrap ((IntKind.u64.wrap (Int.tdiv (IntKind.u64.wrap (a0_0)) x4_1)) * x4_1)) % 4294967296), .int .i64 0]) ?_ 1 _ rfl; (with_reducible repeat (first | refine blk_drewN ?_ _ | refine blk_drew ?_ | refine blk_alloc ?_ _)); refine blk_put (cs := #[.int .u32 0, .int .i64 0]) ?_ 0 _ rfl; (with_reducible repeat (first | refine blk_drewN ?_ _ | refine blk_drew ?_ | refine blk_alloc ?_ _)); exact BK2.out) Try.underlying35 rfl (by kernel_rfl)) rfl ?_
     exact ⟨by first | rfl | (simp [errW_none, errW_some] <;> rfl) | (simp only [← hji2, ← hji3]; first | rfl | (simp [errW_none, errW_some] <;> rfl)) | (simp [*, errW_none, errW_some] <;> rfl), by repeat (first | (with_reducible first | exact HB.out | apply below_alloc | apply pw_below_drewN | apply below_drew1 | refine below_set ?_ GE1.out | refine below_set ?_ GE2.out) | exact HB.out)⟩

end Go.Proofs.Ythekledcoeeheaa.P
