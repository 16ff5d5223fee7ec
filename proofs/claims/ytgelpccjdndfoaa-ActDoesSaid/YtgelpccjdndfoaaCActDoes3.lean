/- Part of the proof of the law ActDoes: the functions that it reaches, by contract. -/
import Derived.Test.YtgelpccjdndfoaaCActDoes0
import Derived.Test.YtgelpccjdndfoaaCActDoes1
import Derived.Test.YtgelpccjdndfoaaCActDoes2
set_option linter.unusedVariables false
set_option linter.unusedSimpArgs false
namespace Go.Proofs.Ytgelpccjdndfoaa.P
open Go.RowKit Go.Proofs.YtgelpccjdndfoaaW.PrintWords Go.Proofs.YtgelpccjdndfoaaW.PrintLast Go.Proofs.YtgelpccjdndfoaaW.PrintMore
attribute [local go_sem] max2_int min2_int max_two min_two max_three min_three max_four min_four
/-! ### dragomanref11_Great: function 24 -/
mutual
def q27z.l0 : Nat → Int → List (S76) → Int → Int → Int → List (S92) → List (S76) → List (S53) → Int → Int → Option (Bool)
 | 0, _, _, _, _, _, _, _, _, _, _ => none
 | k + 1, x3, x11, x12, x13, x2000, x2001, x2002, x2003, x2004, x2005 => if x13 < x12 then (if 0 ≤ x13 then (if x13 < (x11.length : Int) then ((q26z.f k ((rd_T76 x11 x13).f1.f0) ((rd_T76 x11 x13).f1.f1) ((rd_T76 x11 x13).f1.f2)).bind fun bt4 => (if x13 > 100 then (some true) else (if (wrap64 (x3 + bt4.1)) > 3000 then (some true) else (q27z.l0 k (wrap64 (x3 + bt4.1)) x11 x12 (wrap64 (x13 + 1)) x2000 x2001 x2002 x2003 x2004 x2005)))) else (none)) else (none)) else (q27z.l1 k 0 x2003 (x2003.length : Int) 0 x2000 x2001 x2002 x2003 x2004 x2005)
def q27z.l1 : Nat → Int → List (S53) → Int → Int → Int → List (S92) → List (S76) → List (S53) → Int → Int → Option (Bool)
 | 0, _, _, _, _, _, _, _, _, _, _ => none
 | k + 1, x3, x35, x36, x37, x2000, x2001, x2002, x2003, x2004, x2005 => if x37 < x36 then (if 0 ≤ x37 then (if x37 < (x35.length : Int) then (if x37 > 100 then (some true) else (if (wrap64 (x3 + (mn (((rd_T53 x35 x37).f1).length : Int) 10000))) > 3000 then (some true) else (q27z.l1 k (wrap64 (x3 + (mn (((rd_T53 x35 x37).f1).length : Int) 10000))) x35 x36 (wrap64 (x37 + 1)) x2000 x2001 x2002 x2003 x2004 x2005))) else (none)) else (none)) else (some (decide ((x2001.length : Int) > 3000)))
end
def q27z.f (k : Nat) (a0_0 : Int) (l0_1 : List (S92)) (l0_2 : List (S76)) (l0_3 : List (S53)) (a0_4 : Int) (a0_5 : Int) : Option (Bool) := q27z.l0 k 0 l0_2 (l0_2.length : Int) 0 a0_0 l0_1 l0_2 l0_3 a0_4 a0_5
theorem q27z.mono_l : ∀ k, (∀ y0 y1 y2 y3 y4 y5 y6 y7 y8 y9, LeO (q27z.l0 k y0 y1 y2 y3 y4 y5 y6 y7 y8 y9) (q27z.l0 (k + 1) y0 y1 y2 y3 y4 y5 y6 y7 y8 y9)) ∧ (∀ y0 y1 y2 y3 y4 y5 y6 y7 y8 y9, LeO (q27z.l1 k y0 y1 y2 y3 y4 y5 y6 y7 y8 y9) (q27z.l1 (k + 1) y0 y1 y2 y3 y4 y5 y6 y7 y8 y9))
 | 0 => ⟨fun _ _ _ _ _ _ _ _ _ _ r h => by simp [q27z.l0] at h, fun _ _ _ _ _ _ _ _ _ _ r h => by simp [q27z.l1] at h⟩
 | k + 1 => by
  obtain ⟨ih0, ih1⟩ := q27z.mono_l k
  refine ⟨?_, ?_⟩
  ·
   intro y0 y1 y2 y3 y4 y5 y6 y7 y8 y9
   unfold q27z.l0
   repeat' first
   | (with_reducible exact ih0 _ _ _ _ _ _ _ _ _ _)
   | (with_reducible exact ih1 _ _ _ _ _ _ _ _ _ _)
   | (with_reducible exact q26z.mono _ _ _ _)
   | (with_reducible exact LeO.refl _)
   | (with_reducible exact LeO.none _)
   | (with_reducible refine LeO.ite ?_ ?_)
   | (with_reducible refine LeO.bind ?_ (fun _ => ?_))
   | exact ih0 _ _ _ _ _ _ _ _ _ _
   | exact ih1 _ _ _ _ _ _ _ _ _ _
   | exact q26z.mono _ _ _ _
   | exact LeO.none _
   | refine LeO.ite ?_ ?_
   | refine LeO.bind ?_ (fun _ => ?_)
  ·
   intro y0 y1 y2 y3 y4 y5 y6 y7 y8 y9
   unfold q27z.l1
   repeat' first
   | (with_reducible exact ih0 _ _ _ _ _ _ _ _ _ _)
   | (with_reducible exact ih1 _ _ _ _ _ _ _ _ _ _)
   | (with_reducible exact q26z.mono _ _ _ _)
   | (with_reducible exact LeO.refl _)
   | (with_reducible exact LeO.none _)
   | (with_reducible refine LeO.ite ?_ ?_)
   | (with_reducible refine LeO.bind ?_ (fun _ => ?_))
   | exact ih0 _ _ _ _ _ _ _ _ _ _
   | exact ih1 _ _ _ _ _ _ _ _ _ _
   | exact q26z.mono _ _ _ _
   | exact LeO.none _
   | refine LeO.ite ?_ ?_
   | refine LeO.bind ?_ (fun _ => ?_)
theorem q27z.mono : ∀ a0 a1 a2 a3 a4 a5 k, LeO (q27z.f k a0 a1 a2 a3 a4 a5) (q27z.f (k + 1) a0 a1 a2 a3 a4 a5) := by
 intro a0 a1 a2 a3 a4 a5 k
 obtain ⟨ih0, ih1⟩ := q27z.mono_l k
 unfold q27z.f
 repeat' first
   | (with_reducible exact ih0 _ _ _ _ _ _ _ _ _ _)
   | (with_reducible exact ih1 _ _ _ _ _ _ _ _ _ _)
   | (with_reducible exact q26z.mono _ _ _ _)
   | (with_reducible exact LeO.refl _)
   | (with_reducible exact LeO.none _)
   | (with_reducible refine LeO.ite ?_ ?_)
   | (with_reducible refine LeO.bind ?_ (fun _ => ?_))
   | exact ih0 _ _ _ _ _ _ _ _ _ _
   | exact ih1 _ _ _ _ _ _ _ _ _ _
   | exact q26z.mono _ _ _ _
   | exact LeO.none _
   | refine LeO.ite ?_ ?_
   | refine LeO.bind ?_ (fun _ => ?_)
set_option maxHeartbeats 8000000 in
set_option maxRecDepth 100000 in
theorem q27z.calls (k : Nat) (a0_0 : Int) (A0_1 : Option Addr) (c0_1 : Nat) (l0_1 : List (S92)) (A0_2 : Option Addr) (c0_2 : Nat) (l0_2 : List (S76)) (A0_3 : Option Addr) (c0_3 : Nat) (l0_3 : List (S53)) (a0_4 : Int) (a0_5 : Int) (r : Bool) (w : World) (hr0_1 : Kd.C k92 w A0_1 l0_1.length l0_1) (hc0_1 : l0_1.length ≤ c0_1) (hr0_2 : Kd.C k76 w A0_2 l0_2.length l0_2) (hc0_2 : l0_2.length ≤ c0_2) (hr0_3 : Kd.C k53 w A0_3 l0_3.length l0_3) (hc0_3 : l0_3.length ≤ c0_3) (h : q27z.f k a0_0 l0_1 l0_2 l0_3 a0_4 a0_5 = some r) :
  Calls Try.prog 24 #[.agg #[.int .i64 a0_0, .slice A0_1 l0_1.length c0_1, .slice A0_2 l0_2.length c0_2, .slice A0_3 l0_3.length c0_3, .int .u32 a0_4, .int .u32 a0_5]] w fun e w' => e = .returned (.bool r) ∧ Below w.heap.size w w' := by
 have hu58 := Try.underlying58
 have hu76 := Try.underlying76
 have hu74 := Try.underlying74
 have hu53 := Try.underlying53
 have HR0_1 := Aside0.mk hr0_1
 have HC0_1 := Aside0.mk hc0_1
 clear hr0_1 hc0_1
 have HR0_2 := Aside0.mk hr0_2
 have HC0_2 := Aside0.mk hc0_2
 clear hr0_2 hc0_2
 have HR0_3 := Aside0.mk hr0_3
 have HC0_3 := Aside0.mk hc0_3
 clear hr0_3 hc0_3
 have HB := Aside0.mk (Below.refl w.heap.size w)
 have H : (q27z.l0 k 0 l0_2 (l0_2.length : Int) 0 a0_0 l0_1 l0_2 l0_3 a0_4 a0_5) = some r := h
 clear h
 have H' := Aside0.mk H
 clear H
 go_enter Try.func24, Try.ntmps24
 go_wp2_with (first | ((with_reducible refine gate_dst (N := 1) rfl ?_); refine box_event ?hg (N := 1) ?hd (cs := #[.int .i64 a0_0, .slice A0_1 l0_1.length c0_1, .slice A0_2 l0_2.length c0_2, .slice A0_3 l0_3.length c0_3, .int .u32 a0_4, .int .u32 a0_5]) (t := 58) ?hr ?_; (case hd => rfl); (case hg => rfl); (case hr => first | (go_simp; done) | (go_simp; rfl)); intro gb1 hg w2 hbox hb; have BK1 := Aside0.mk (hbox); have GW1 := gwS hg HB; have GE1 := gwS hg HB; replace HB := hbS HB hb; clear hb hbox hg; obtain ⟨hcz3_0, hcz3_1, hcz3_2, hcz3_3, hcz3_4, hcz3_5, hfz3_0, hfz3_1, hfz3_2, hfz3_3, hfz3_4, hfz3_5⟩ := bc6 BK1))
 go_loopg [3, 13] k (fun kq v3 v13 w' => ∃ (x3_1 : Int) (x13_1 : Int), v3 = .int .i64 x3_1 ∧ v13 = .int .i64 x13_1 ∧ Aside0 (q27z.l0 kq x3_1 l0_2 (l0_2.length : Int) x13_1 a0_0 l0_1 l0_2 l0_3 a0_4 a0_5 = some r) ∧ Aside0 (kq ≤ k) ∧ Aside0 (w'.heap[gb1]? = some (.cells #[.int .i64 a0_0, (.slice A0_1 l0_1.length c0_1), (.slice A0_2 l0_2.length c0_2), (.slice A0_3 l0_3.length c0_3), .int .u32 a0_4, .int .u32 a0_5] 58 (0, 0))) ∧ Aside0 (Below w.heap.size w w'))
 case atStart => exact ⟨(0), (0), (by first | rfl | (simp; done) | (simp [*]; done)), (by first | rfl | (simp; done) | (simp [*]; done)), H', ⟨Nat.le_refl _⟩, ⟨by (with_reducible repeat (first | refine blk_drewN ?_ _ | refine blk_drew ?_ | refine blk_alloc ?_ _)); exact BK1.out⟩, ⟨hbW HB⟩⟩
 case round =>
  clear H'
  try clear c2
  try clear p2
  try clear hcz3_0 hcz3_1 hcz3_2 hcz3_3 hcz3_4 hcz3_5
  try clear hfz3_0 hfz3_1 hfz3_2 hfz3_3 hfz3_4 hfz3_5
  obtain ⟨x3_1, x13_1, rfl, rfl, HA, HK1, BK1, HB⟩ := hrel
  cases gk with
  | zero => exact absurd HA.out (by simp [q27z.l0])
  | succ k1 =>
   have H := HA.out
   clear HA
   simp only [q27z.l0] at H
   by_cases c4 : x13_1 < (l0_2.length : Int)
   ·
    rw [if_pos c4] at H
    have c4b0 : decide (x13_1 < (l0_2.length : Int)) = true := decide_eq_true c4
    clear c4
    by_cases c5 : 0 ≤ x13_1
    ·
     rw [if_pos c5] at H
     have c5b0 : decide (0 ≤ x13_1) = true := decide_eq_true c5
     clear c5
     by_cases c6 : x13_1 < (l0_2.length : Int)
     ·
      rw [if_pos c6] at H
      have c6b0 : decide (x13_1 < (l0_2.length : Int)) = true := decide_eq_true c6
      clear c6
      replace H := Option.bind_eq_some_iff.mp H
      obtain ⟨⟨t4, t5⟩, A70, H⟩ := H
      replace H : (if x13_1 > 100 then (some true) else (if (wrap64 (x3_1 + t4)) > 3000 then (some true) else (q27z.l0 k1 (wrap64 (x3_1 + t4)) l0_2 (l0_2.length : Int) (wrap64 (x13_1 + 1)) a0_0 l0_1 l0_2 l0_3 a0_4 a0_5))) = some r := H
      have A7 := Aside0.mk A70
      clear A70
      by_cases c8 : x13_1 > 100
      ·
       rw [if_pos c8] at H
       have c8b0 : decide (100 < x13_1) = true := decide_eq_true c8
       clear c8
       obtain rfl := Option.some.inj H
       have p2 : 0 ≤ (x13_1 : Int) := of_decide_eq_true (by first | (with_reducible assumption) | assumption)
       have q2 : x13_1 < (l0_2.length : Int) := of_decide_eq_true (by first | (with_reducible assumption) | assumption)
       obtain ⟨ad2, A2_2, c2_2, A2_3, c2_3, e2, hx2_0, hx2_1, hx2_2, hx2_3, hl2_2, hi2_2, hl2_3, hi2_3⟩ := at_T76 HR0_2.out x13_1 p2 q2
       cases e2
       replace hx2_0 := (HB.out.cell (World.block_lt_of_cell? w _ hx2_0)).trans hx2_0
       replace hx2_1 := (HB.out.cell (World.block_lt_of_cell? w _ hx2_1)).trans hx2_1
       replace hx2_2 := (HB.out.cell (World.block_lt_of_cell? w _ hx2_2)).trans hx2_2
       replace hx2_3 := (HB.out.cell (World.block_lt_of_cell? w _ hx2_3)).trans hx2_3
       have HR2_2 := Aside0.mk hi2_2
       have HC2_2 := Aside0.mk hl2_2
       clear hi2_2 hl2_2
       have HR2_3 := Aside0.mk hi2_3
       have HC2_3 := Aside0.mk hl2_3
       clear hi2_3 hl2_3
       replace p2 := eq_true p2
       replace q2 := eq_true q2
       go_wp2_with (first | ((with_reducible refine gate_dst (N := 5) rfl ?_); refine box_event ?hg (N := 5) ?hd (cs := #[.bool false, .int .i64 0, .slice none 0 0, .slice none 0 0]) (t := 76) ?hr ?_; (case hd => rfl); (case hg => rfl); (case hr => first | (go_simp; done) | (go_simp; rfl)); intro gb3 hg w9 hbox hb; have BK3 := Aside0.mk (hbox); have GW3 := gwS hg HB; have GE3 := gwS hg HB; have NB1_3 := nbL hg BK1; have NB3_1 := nbG hg BK1; replace BK1 := bkB BK1 hb; replace HB := hbS HB hb; clear hb hbox hg; have hnb10 := NB3_1.out; have hnc10 := NB1_3.out; obtain ⟨hcz11_0, hcz11_1, hcz11_2, hcz11_3, hfz11_0, hfz11_1, hfz11_2, hfz11_3⟩ := bc4 BK3) | ((with_reducible refine gate_callee (f := 40) rfl ?_); refine goesL_ (some 21) rfl rfl Try.func40 (by kernel_rfl) rfl #[.agg #[.int .i64 ((rd_T76 l0_2 x13_1).f1.f0), .slice A2_2 ((rd_T76 l0_2 x13_1).f1.f1).length c2_2, .slice A2_3 ((rd_T76 l0_2 x13_1).f1.f2).length c2_3]] rfl (by (try simp only [List.map_toArray, List.map_cons, List.map_nil]); first | done | rfl | (simp only [List.length_drop, List.length_take]; rfl)) ?_; (with_reducible refine (q26z.calls k1 ((rd_T76 l0_2 x13_1).f1.f0) _ _ ((rd_T76 l0_2 x13_1).f1.f1) _ _ ((rd_T76 l0_2 x13_1).f1.f2) t4 t5 _ ?side1 ?side2 ?side3 ?side4 A7.out).mono ?_); (case side1 => exact Kd.C_below HR2_2.out (hbW HB)); (case side2 => exact HC2_2.out); (case side3 => exact Kd.C_below HR2_3.out (hbW HB)); (case side4 => exact HC2_3.out); rintro e w12 ⟨rfl, hb⟩; refine ⟨_, rfl, ?_⟩; replace BK1 := bvB BK1 hb; replace BK3 := Aside0.mk (blk_below (g := gb3) (o := .cells #[.bool ((rd_T76 l0_2 x13_1).f0), .int .i64 ((rd_T76 l0_2 x13_1).f1.f0), .slice A2_2 ((rd_T76 l0_2 x13_1).f1.f1).length c2_2, .slice A2_3 ((rd_T76 l0_2 x13_1).f1.f2).length c2_3] 76 (0, 0)) (bp4 BK3) hb); replace HB := hbS HB hb; (try clear hb)))
       go_ret
       exact ⟨by first | rfl | (simp [errW_none, errW_some] <;> rfl) | (simp [*, errW_none, errW_some] <;> rfl), hbW HB⟩
      ·
       rw [if_neg c8] at H
       have c8b0 : decide (100 < x13_1) = false := decide_eq_false c8
       clear c8
       by_cases c13 : (wrap64 (x3_1 + t4)) > 3000
       ·
        rw [if_pos c13] at H
        have c13b0 : decide (3000 < (wrap64 (x3_1 + t4))) = true := decide_eq_true c13
        clear c13
        obtain rfl := Option.some.inj H
        have p2 : 0 ≤ (x13_1 : Int) := of_decide_eq_true (by first | (with_reducible assumption) | assumption)
        have q2 : x13_1 < (l0_2.length : Int) := of_decide_eq_true (by first | (with_reducible assumption) | assumption)
        obtain ⟨ad2, A2_2, c2_2, A2_3, c2_3, e2, hx2_0, hx2_1, hx2_2, hx2_3, hl2_2, hi2_2, hl2_3, hi2_3⟩ := at_T76 HR0_2.out x13_1 p2 q2
        cases e2
        replace hx2_0 := (HB.out.cell (World.block_lt_of_cell? w _ hx2_0)).trans hx2_0
        replace hx2_1 := (HB.out.cell (World.block_lt_of_cell? w _ hx2_1)).trans hx2_1
        replace hx2_2 := (HB.out.cell (World.block_lt_of_cell? w _ hx2_2)).trans hx2_2
        replace hx2_3 := (HB.out.cell (World.block_lt_of_cell? w _ hx2_3)).trans hx2_3
        have HR2_2 := Aside0.mk hi2_2
        have HC2_2 := Aside0.mk hl2_2
        clear hi2_2 hl2_2
        have HR2_3 := Aside0.mk hi2_3
        have HC2_3 := Aside0.mk hl2_3
        clear hi2_3 hl2_3
        replace p2 := eq_true p2
        replace q2 := eq_true q2
        go_wp2_with (first | ((with_reducible refine gate_dst (N := 5) rfl ?_); refine box_event ?hg (N := 5) ?hd (cs := #[.bool false, .int .i64 0, .slice none 0 0, .slice none 0 0]) (t := 76) ?hr ?_; (case hd => rfl); (case hg => rfl); (case hr => first | (go_simp; done) | (go_simp; rfl)); intro gb3 hg w14 hbox hb; have BK3 := Aside0.mk (hbox); have GW3 := gwS hg HB; have GE3 := gwS hg HB; have NB1_3 := nbL hg BK1; have NB3_1 := nbG hg BK1; replace BK1 := bkB BK1 hb; replace HB := hbS HB hb; clear hb hbox hg; have hnb15 := NB3_1.out; have hnc15 := NB1_3.out; obtain ⟨hcz16_0, hcz16_1, hcz16_2, hcz16_3, hfz16_0, hfz16_1, hfz16_2, hfz16_3⟩ := bc4 BK3) | ((with_reducible refine gate_callee (f := 40) rfl ?_); refine goesL_ (some 21) rfl rfl Try.func40 (by kernel_rfl) rfl #[.agg #[.int .i64 ((rd_T76 l0_2 x13_1).f1.f0), .slice A2_2 ((rd_T76 l0_2 x13_1).f1.f1).length c2_2, .slice A2_3 ((rd_T76 l0_2 x13_1).f1.f2).length c2_3]] rfl (by (try simp only [List.map_toArray, List.map_cons, List.map_nil]); first | done | rfl | (simp only [List.length_drop, List.length_take]; rfl)) ?_; (with_reducible refine (q26z.calls k1 ((rd_T76 l0_2 x13_1).f1.f0) _ _ ((rd_T76 l0_2 x13_1).f1.f1) _ _ ((rd_T76 l0_2 x13_1).f1.f2) t4 t5 _ ?side1 ?side2 ?side3 ?side4 A7.out).mono ?_); (case side1 => exact Kd.C_below HR2_2.out (hbW HB)); (case side2 => exact HC2_2.out); (case side3 => exact Kd.C_below HR2_3.out (hbW HB)); (case side4 => exact HC2_3.out); rintro e w17 ⟨rfl, hb⟩; refine ⟨_, rfl, ?_⟩; replace BK1 := bvB BK1 hb; replace BK3 := Aside0.mk (blk_below (g := gb3) (o := .cells #[.bool ((rd_T76 l0_2 x13_1).f0), .int .i64 ((rd_T76 l0_2 x13_1).f1.f0), .slice A2_2 ((rd_T76 l0_2 x13_1).f1.f1).length c2_2, .slice A2_3 ((rd_T76 l0_2 x13_1).f1.f2).length c2_3] 76 (0, 0)) (bp4 BK3) hb); replace HB := hbS HB hb; (try clear hb)))
        go_ret
        exact ⟨by first | rfl | (simp [errW_none, errW_some] <;> rfl) | (simp [*, errW_none, errW_some] <;> rfl), hbW HB⟩
       ·
        rw [if_neg c13] at H
        have c13b0 : decide (3000 < (wrap64 (x3_1 + t4))) = false := decide_eq_false c13
        clear c13
        have H' := Aside0.mk H
        clear H
        have p2 : 0 ≤ (x13_1 : Int) := of_decide_eq_true (by first | (with_reducible assumption) | assumption)
        have q2 : x13_1 < (l0_2.length : Int) := of_decide_eq_true (by first | (with_reducible assumption) | assumption)
        obtain ⟨ad2, A2_2, c2_2, A2_3, c2_3, e2, hx2_0, hx2_1, hx2_2, hx2_3, hl2_2, hi2_2, hl2_3, hi2_3⟩ := at_T76 HR0_2.out x13_1 p2 q2
        cases e2
        replace hx2_0 := (HB.out.cell (World.block_lt_of_cell? w _ hx2_0)).trans hx2_0
        replace hx2_1 := (HB.out.cell (World.block_lt_of_cell? w _ hx2_1)).trans hx2_1
        replace hx2_2 := (HB.out.cell (World.block_lt_of_cell? w _ hx2_2)).trans hx2_2
        replace hx2_3 := (HB.out.cell (World.block_lt_of_cell? w _ hx2_3)).trans hx2_3
        have HR2_2 := Aside0.mk hi2_2
        have HC2_2 := Aside0.mk hl2_2
        clear hi2_2 hl2_2
        have HR2_3 := Aside0.mk hi2_3
        have HC2_3 := Aside0.mk hl2_3
        clear hi2_3 hl2_3
        replace p2 := eq_true p2
        replace q2 := eq_true q2
        go_wp2_with (first | ((with_reducible refine gate_dst (N := 5) rfl ?_); refine box_event ?hg (N := 5) ?hd (cs := #[.bool false, .int .i64 0, .slice none 0 0, .slice none 0 0]) (t := 76) ?hr ?_; (case hd => rfl); (case hg => rfl); (case hr => first | (go_simp; done) | (go_simp; rfl)); intro gb3 hg w18 hbox hb; have BK3 := Aside0.mk (hbox); have GW3 := gwS hg HB; have GE3 := gwS hg HB; have NB1_3 := nbL hg BK1; have NB3_1 := nbG hg BK1; replace BK1 := bkB BK1 hb; replace HB := hbS HB hb; clear hb hbox hg; have hnb19 := NB3_1.out; have hnc19 := NB1_3.out; obtain ⟨hcz20_0, hcz20_1, hcz20_2, hcz20_3, hfz20_0, hfz20_1, hfz20_2, hfz20_3⟩ := bc4 BK3) | ((with_reducible refine gate_callee (f := 40) rfl ?_); refine goesL_ (some 21) rfl rfl Try.func40 (by kernel_rfl) rfl #[.agg #[.int .i64 ((rd_T76 l0_2 x13_1).f1.f0), .slice A2_2 ((rd_T76 l0_2 x13_1).f1.f1).length c2_2, .slice A2_3 ((rd_T76 l0_2 x13_1).f1.f2).length c2_3]] rfl (by (try simp only [List.map_toArray, List.map_cons, List.map_nil]); first | done | rfl | (simp only [List.length_drop, List.length_take]; rfl)) ?_; (with_reducible refine (q26z.calls k1 ((rd_T76 l0_2 x13_1).f1.f0) _ _ ((rd_T76 l0_2 x13_1).f1.f1) _ _ ((rd_T76 l0_2 x13_1).f1.f2) t4 t5 _ ?side1 ?side2 ?side3 ?side4 A7.out).mono ?_); (case side1 => exact Kd.C_below HR2_2.out (hbW HB)); (case side2 => exact HC2_2.out); (case side3 => exact Kd.C_below HR2_3.out (hbW HB)); (case side4 => exact HC2_3.out); rintro e w21 ⟨rfl, hb⟩; refine ⟨_, rfl, ?_⟩; replace BK1 := bvB BK1 hb; replace BK3 := Aside0.mk (blk_below (g := gb3) (o := .cells #[.bool ((rd_T76 l0_2 x13_1).f0), .int .i64 ((rd_T76 l0_2 x13_1).f1.f0), .slice A2_2 ((rd_T76 l0_2 x13_1).f1.f1).length c2_2, .slice A2_3 ((rd_T76 l0_2 x13_1).f1.f2).length c2_3] 76 (0, 0)) (bp4 BK3) hb); replace HB := hbS HB hb; (try clear hb)))
        go_roundg k1
        case measure => have := HK1.out; omega
        case rel => exact ⟨(wrap64 (x3_1 + t4)), (wrap64 (x13_1 + 1)), (by first | rfl | (simp; done) | (simp [*]; done)), (by first | rfl | (simp; done) | (simp [*]; done)), H', ⟨by have := HK1.out; omega⟩, ⟨by (with_reducible repeat (first | refine blk_drewN ?_ _ | refine blk_drew ?_ | refine blk_alloc ?_ _)); exact BK1.out⟩, ⟨hbW HB⟩⟩
     ·
      rw [if_neg c6] at H
      exact absurd H (by simp)
    ·
     rw [if_neg c5] at H
     exact absurd H (by simp)
   ·
    rw [if_neg c4] at H
    have c4b0 : decide (x13_1 < (l0_2.length : Int)) = false := decide_eq_false c4
    clear c4
    have H' := Aside0.mk H
    clear H
    obtain ⟨hcz22_0, hcz22_1, hcz22_2, hcz22_3, hcz22_4, hcz22_5, hfz22_0, hfz22_1, hfz22_2, hfz22_3, hfz22_4, hfz22_5⟩ := bc6 BK1
    go_wp2
    go_loopg [3, 37] k1 (fun kq v3 v37 w' => ∃ (x3_2 : Int) (x37_2 : Int), v3 = .int .i64 x3_2 ∧ v37 = .int .i64 x37_2 ∧ Aside0 (q27z.l1 kq x3_2 l0_3 (l0_3.length : Int) x37_2 a0_0 l0_1 l0_2 l0_3 a0_4 a0_5 = some r) ∧ Aside0 (kq ≤ k1) ∧ Aside0 (w'.heap[gb1]? = some (.cells #[.int .i64 a0_0, (.slice A0_1 l0_1.length c0_1), (.slice A0_2 l0_2.length c0_2), (.slice A0_3 l0_3.length c0_3), .int .u32 a0_4, .int .u32 a0_5] 58 (0, 0))) ∧ Aside0 (Below w.heap.size w w'))
    case atStart => exact ⟨(0), (0), (by first | rfl | (simp; done) | (simp [*]; done)), (by first | rfl | (simp; done) | (simp [*]; done)), H', ⟨Nat.le_refl _⟩, ⟨by (with_reducible repeat (first | refine blk_drewN ?_ _ | refine blk_drew ?_ | refine blk_alloc ?_ _)); exact BK1.out⟩, ⟨hbW HB⟩⟩
    case round =>
     clear H'
     try clear c1
     try clear c2
     try clear p2
     try clear q2
     try clear hx2
     try clear c4
     try clear c4b0
     try clear c5
     try clear c5b0
     try clear c6
     try clear c6b0
     try clear p6
     try clear c8
     try clear c8b0
     try clear c10
     try clear c13
     try clear c13b0
     try clear c15
     try clear c19
     try clear hcz11_0 hcz11_1 hcz11_2 hcz11_3
     try clear hcz16_0 hcz16_1 hcz16_2 hcz16_3
     try clear hcz20_0 hcz20_1 hcz20_2 hcz20_3
     try clear hcz22_0 hcz22_1 hcz22_2 hcz22_3 hcz22_4 hcz22_5
     try clear hcz3_0 hcz3_1 hcz3_2 hcz3_3 hcz3_4 hcz3_5
     try clear hfz11_0 hfz11_1 hfz11_2 hfz11_3
     try clear hfz16_0 hfz16_1 hfz16_2 hfz16_3
     try clear hfz20_0 hfz20_1 hfz20_2 hfz20_3
     try clear hfz22_0 hfz22_1 hfz22_2 hfz22_3 hfz22_4 hfz22_5
     try clear hfz3_0 hfz3_1 hfz3_2 hfz3_3 hfz3_4 hfz3_5
     try clear hx2_0
     try clear hx2_1
     try clear hx2_2
     try clear hx2_3
     try clear p2
     try clear q2
     obtain ⟨x3_2, x37_2, rfl, rfl, HA, HK2, BK1, HB⟩ := hrel
     cases gk with
     | zero => exact absurd HA.out (by simp [q27z.l1])
     | succ k2 =>
      have H := HA.out
      clear HA
      simp only [q27z.l1] at H
      by_cases c23 : x37_2 < (l0_3.length : Int)
      ·
       rw [if_pos c23] at H
       have c23b0 : decide (x37_2 < (l0_3.length : Int)) = true := decide_eq_true c23
       clear c23
       by_cases c24 : 0 ≤ x37_2
       ·
        rw [if_pos c24] at H
        have c24b0 : decide (0 ≤ x37_2) = true := decide_eq_true c24
        clear c24
        by_cases c25 : x37_2 < (l0_3.length : Int)
        ·
         rw [if_pos c25] at H
         have c25b0 : decide (x37_2 < (l0_3.length : Int)) = true := decide_eq_true c25
         clear c25
         obtain ⟨ji26, hji26⟩ : ∃ j_ : Int, (mn (((rd_T53 l0_3 x37_2).f1).length : Int) 10000) = j_ := ⟨_, rfl⟩
         replace H : (if x37_2 > 100 then (some true) else (if (wrap64 (x3_2 + (ji26))) > 3000 then (some true) else (q27z.l1 k2 (wrap64 (x3_2 + (ji26))) l0_3 (l0_3.length : Int) (wrap64 (x37_2 + 1)) a0_0 l0_1 l0_2 l0_3 a0_4 a0_5))) = some r := by first | (rw [hji26] at H; exact H) | (simp only [hji26] at H ⊢; exact H)
         have hji26_ : (if 10000 < (((rd_T53 l0_3 x37_2).f1).length : Int) then 10000 else (((rd_T53 l0_3 x37_2).f1).length : Int)) = ji26 := hji26
         by_cases c27 : x37_2 > 100
         ·
          rw [if_pos c27] at H
          have c27b0 : decide (100 < x37_2) = true := decide_eq_true c27
          clear c27
          obtain rfl := Option.some.inj H
          have p6 : 0 ≤ (x37_2 : Int) := of_decide_eq_true (by first | (with_reducible assumption) | assumption)
          have q6 : x37_2 < (l0_3.length : Int) := of_decide_eq_true (by first | (with_reducible assumption) | assumption)
          obtain ⟨ad6, A6_1, c6_1, e6, hx6_0, hx6_1, hl6_1, hi6_1⟩ := at_T53 HR0_3.out x37_2 p6 q6
          cases e6
          replace hx6_0 := (HB.out.cell (World.block_lt_of_cell? w _ hx6_0)).trans hx6_0
          replace hx6_1 := (HB.out.cell (World.block_lt_of_cell? w _ hx6_1)).trans hx6_1
          have HR6_1 := Aside0.mk hi6_1
          have HC6_1 := Aside0.mk hl6_1
          clear hi6_1 hl6_1
          replace p6 := eq_true p6
          replace q6 := eq_true q6
          go_wp2_with (first | ((with_reducible refine gate_dst (N := 9) rfl ?_); refine box_event ?hg (N := 9) ?hd (cs := #[.bool false, .slice none 0 0]) (t := 53) ?hr ?_; (case hd => rfl); (case hg => rfl); (case hr => first | (go_simp; done) | (go_simp; rfl)); intro gb7 hg w28 hbox hb; have BK7 := Aside0.mk (hbox); have GW7 := gwS hg HB; have GE7 := gwS hg HB; have NB1_7 := nbL hg BK1; have NB7_1 := nbG hg BK1; replace BK1 := bkB BK1 hb; replace HB := hbS HB hb; clear hb hbox hg; have hnb29 := NB7_1.out; have hnc29 := NB1_7.out; obtain ⟨hcz30_0, hcz30_1, hfz30_0, hfz30_1⟩ := bc2 BK7))
          go_ret
          exact ⟨by first | rfl | (simp [errW_none, errW_some] <;> rfl) | (simp only [← hji26]; first | rfl | (simp [errW_none, errW_some] <;> rfl)) | (simp [*, errW_none, errW_some] <;> rfl), hbW HB⟩
         ·
          rw [if_neg c27] at H
          have c27b0 : decide (100 < x37_2) = false := decide_eq_false c27
          clear c27
          by_cases c31 : (wrap64 (x3_2 + (ji26))) > 3000
          ·
           rw [if_pos c31] at H
           have c31b0 : decide (3000 < (wrap64 (x3_2 + (ji26)))) = true := decide_eq_true c31
           clear c31
           obtain rfl := Option.some.inj H
           have p6 : 0 ≤ (x37_2 : Int) := of_decide_eq_true (by first | (with_reducible assumption) | assumption)
           have q6 : x37_2 < (l0_3.length : Int) := of_decide_eq_true (by first | (with_reducible assumption) | assumption)
           obtain ⟨ad6, A6_1, c6_1, e6, hx6_0, hx6_1, hl6_1, hi6_1⟩ := at_T53 HR0_3.out x37_2 p6 q6
           cases e6
           replace hx6_0 := (HB.out.cell (World.block_lt_of_cell? w _ hx6_0)).trans hx6_0
           replace hx6_1 := (HB.out.cell (World.block_lt_of_cell? w _ hx6_1)).trans hx6_1
           have HR6_1 := Aside0.mk hi6_1
           have HC6_1 := Aside0.mk hl6_1
           clear hi6_1 hl6_1
           replace p6 := eq_true p6
           replace q6 := eq_true q6
           go_wp2_with (first | ((with_reducible refine gate_dst (N := 9) rfl ?_); refine box_event ?hg (N := 9) ?hd (cs := #[.bool false, .slice none 0 0]) (t := 53) ?hr ?_; (case hd => rfl); (case hg => rfl); (case hr => first | (go_simp; done) | (go_simp; rfl)); intro gb7 hg w32 hbox hb; have BK7 := Aside0.mk (hbox); have GW7 := gwS hg HB; have GE7 := gwS hg HB; have NB1_7 := nbL hg BK1; have NB7_1 := nbG hg BK1; replace BK1 := bkB BK1 hb; replace HB := hbS HB hb; clear hb hbox hg; have hnb33 := NB7_1.out; have hnc33 := NB1_7.out; obtain ⟨hcz34_0, hcz34_1, hfz34_0, hfz34_1⟩ := bc2 BK7))
           go_ret
           exact ⟨by first | rfl | (simp [errW_none, errW_some] <;> rfl) | (simp only [← hji26]; first | rfl | (simp [errW_none, errW_some] <;> rfl)) | (simp [*, errW_none, errW_some] <;> rfl), hbW HB⟩
          ·
           rw [if_neg c31] at H
           have c31b0 : decide (3000 < (wrap64 (x3_2 + (ji26)))) = false := decide_eq_false c31
           clear c31
           have H' := Aside0.mk H
           clear H
           have p6 : 0 ≤ (x37_2 : Int) := of_decide_eq_true (by first | (with_reducible assumption) | assumption)
           have q6 : x37_2 < (l0_3.length : Int) := of_decide_eq_true (by first | (with_reducible assumption) | assumption)
           obtain ⟨ad6, A6_1, c6_1, e6, hx6_0, hx6_1, hl6_1, hi6_1⟩ := at_T53 HR0_3.out x37_2 p6 q6
           cases e6
           replace hx6_0 := (HB.out.cell (World.block_lt_of_cell? w _ hx6_0)).trans hx6_0
           replace hx6_1 := (HB.out.cell (World.block_lt_of_cell? w _ hx6_1)).trans hx6_1
           have HR6_1 := Aside0.mk hi6_1
           have HC6_1 := Aside0.mk hl6_1
           clear hi6_1 hl6_1
           replace p6 := eq_true p6
           replace q6 := eq_true q6
           go_wp2_with (first | ((with_reducible refine gate_dst (N := 9) rfl ?_); refine box_event ?hg (N := 9) ?hd (cs := #[.bool false, .slice none 0 0]) (t := 53) ?hr ?_; (case hd => rfl); (case hg => rfl); (case hr => first | (go_simp; done) | (go_simp; rfl)); intro gb7 hg w35 hbox hb; have BK7 := Aside0.mk (hbox); have GW7 := gwS hg HB; have GE7 := gwS hg HB; have NB1_7 := nbL hg BK1; have NB7_1 := nbG hg BK1; replace BK1 := bkB BK1 hb; replace HB := hbS HB hb; clear hb hbox hg; have hnb36 := NB7_1.out; have hnc36 := NB1_7.out; obtain ⟨hcz37_0, hcz37_1, hfz37_0, hfz37_1⟩ := bc2 BK7))
           go_roundg k2
           case measure => have := HK1.out; have := HK2.out; omega
           case rel => exact ⟨(wrap64 (x3_2 + (ji26))), (wrap64 (x37_2 + 1)), (by first | rfl | (simp; done) | (simp only [← hji26] <;> (first | rfl | simp)) | (simp [*]; done)), (by first | rfl | (simp; done) | (simp [*]; done)), H', ⟨by have := HK1.out; have := HK2.out; omega⟩, ⟨by (with_reducible repeat (first | refine blk_drewN ?_ _ | refine blk_drew ?_ | refine blk_alloc ?_ _)); refine blk_far ?_ NB1_7.out _; (with_reducible repeat (first | refine blk_drewN ?_ _ | refine blk_drew ?_ | refine blk_alloc ?_ _)); refine blk_far ?_ NB1_7.out _; (with_reducible repeat (first | refine blk_drewN ?_ _ | refine blk_drew ?_ | refine blk_alloc ?_ _)); exact BK1.out⟩, ⟨hbW HB⟩⟩
        ·
         rw [if_neg c25] at H
         exact absurd H (by simp)
       ·
        rw [if_neg c24] at H
        exact absurd H (by simp)
      ·
       rw [if_neg c23] at H
       have c23b0 : decide (x37_2 < (l0_3.length : Int)) = false := decide_eq_false c23
       clear c23
       obtain rfl := Option.some.inj H
       obtain ⟨hcz38_0, hcz38_1, hcz38_2, hcz38_3, hcz38_4, hcz38_5, hfz38_0, hfz38_1, hfz38_2, hfz38_3, hfz38_4, hfz38_5⟩ := bc6 BK1
       go_wp2
       go_ret
       exact ⟨by first | rfl | (simp [errW_none, errW_some] <;> rfl) | (simp [*, errW_none, errW_some] <;> rfl), hbW HB⟩

/-! ### dragomanref12_Great: function 9 -/
def q28z.f (k : Nat) (a0_0 : Int) (a0_1 : Int) (l0_2 : List Int) (l0_3 : List (S53)) : Option (Bool) := if (l0_2.length : Int) > 3000 then (some true) else ((q27z.f k 0 ([] : List (S92)) ([] : List (S76)) l0_3 0 0).bind fun t2 => (some t2))
theorem q28z.mono : ∀ a0 a1 a2 a3 k, LeO (q28z.f k a0 a1 a2 a3) (q28z.f (k + 1) a0 a1 a2 a3) := by
 intro a0 a1 a2 a3 k
 unfold q28z.f
 repeat' first
   | (with_reducible exact q27z.mono _ _ _ _ _ _ _)
   | (with_reducible exact LeO.refl _)
   | (with_reducible exact LeO.none _)
   | (with_reducible refine LeO.ite ?_ ?_)
   | (with_reducible refine LeO.bind ?_ (fun _ => ?_))
   | exact q27z.mono _ _ _ _ _ _ _
   | exact LeO.none _
   | refine LeO.ite ?_ ?_
   | refine LeO.bind ?_ (fun _ => ?_)
set_option maxHeartbeats 8000000 in
set_option maxRecDepth 100000 in
theorem q28z.calls (k : Nat) (a0_0 : Int) (a0_1 : Int) (A0_2 : Option Addr) (c0_2 : Nat) (l0_2 : List Int) (A0_3 : Option Addr) (c0_3 : Nat) (l0_3 : List (S53)) (r : Bool) (w : World) (hr0_2 : Kd.C (Kd.int .u32) w A0_2 l0_2.length l0_2) (hc0_2 : l0_2.length ≤ c0_2) (hr0_3 : Kd.C k53 w A0_3 l0_3.length l0_3) (hc0_3 : l0_3.length ≤ c0_3) (h : q28z.f k a0_0 a0_1 l0_2 l0_3 = some r) :
  Calls Try.prog 9 #[.agg #[.int .i64 a0_0, .int .u32 a0_1, .slice A0_2 l0_2.length c0_2, .slice A0_3 l0_3.length c0_3]] w fun e w' => e = .returned (.bool r) ∧ Below w.heap.size w w' := by
 have hu26 := Try.underlying26
 have hu58 := Try.underlying58
 have HR0_2 := Aside0.mk hr0_2
 have HC0_2 := Aside0.mk hc0_2
 clear hr0_2 hc0_2
 have HR0_3 := Aside0.mk hr0_3
 have HC0_3 := Aside0.mk hc0_3
 clear hr0_3 hc0_3
 have HB := Aside0.mk (Below.refl w.heap.size w)
 have H : (if (l0_2.length : Int) > 3000 then (some true) else ((q27z.f k 0 ([] : List (S92)) ([] : List (S76)) l0_3 0 0).bind fun t2 => (some t2))) = some r := h
 clear h
 by_cases c2 : (l0_2.length : Int) > 3000
 ·
  rw [if_pos c2] at H
  have c2b0 : decide (3000 < (l0_2.length : Int)) = true := decide_eq_true c2
  have c2b1 : decide (3000 < l0_2.length) = true := decide_eq_true (by omega)
  clear c2
  obtain rfl := Option.some.inj H
  go_enter Try.func9, Try.ntmps9
  go_wp2_with (first | ((with_reducible refine gate_dst (N := 1) rfl ?_); refine box_event ?hg (N := 1) ?hd (cs := #[.int .i64 a0_0, .int .u32 a0_1, .slice A0_2 l0_2.length c0_2, .slice A0_3 l0_3.length c0_3]) (t := 26) ?hr ?_; (case hd => rfl); (case hg => rfl); (case hr => first | (go_simp; done) | (go_simp; rfl)); intro gb1 hg w3 hbox hb; have BK1 := Aside0.mk (hbox); have GW1 := gwS hg HB; have GE1 := gwS hg HB; replace HB := hbS HB hb; clear hb hbox hg; obtain ⟨hcz4_0, hcz4_1, hcz4_2, hcz4_3, hfz4_0, hfz4_1, hfz4_2, hfz4_3⟩ := bc4 BK1))
  go_ret
  exact ⟨by first | rfl | (simp [errW_none, errW_some] <;> rfl) | (simp [*, errW_none, errW_some] <;> rfl), hbW HB⟩
 ·
  rw [if_neg c2] at H
  have c2b0 : decide (3000 < (l0_2.length : Int)) = false := decide_eq_false c2
  have c2b1 : decide (3000 < l0_2.length) = false := decide_eq_false (by omega)
  clear c2
  replace H := Option.bind_eq_some_iff.mp H
  obtain ⟨t2, A50, H⟩ := H
  replace H : (some t2) = some r := H
  have A5 := Aside0.mk A50
  clear A50
  obtain rfl := Option.some.inj H
  go_enter Try.func9, Try.ntmps9
  go_wp2_with (first | ((with_reducible refine gate_dst (N := 1) rfl ?_); refine box_event ?hg (N := 1) ?hd (cs := #[.int .i64 a0_0, .int .u32 a0_1, .slice A0_2 l0_2.length c0_2, .slice A0_3 l0_3.length c0_3]) (t := 26) ?hr ?_; (case hd => rfl); (case hg => rfl); (case hr => first | (go_simp; done) | (go_simp; rfl)); intro gb1 hg w6 hbox hb; have BK1 := Aside0.mk (hbox); have GW1 := gwS hg HB; have GE1 := gwS hg HB; replace HB := hbS HB hb; clear hb hbox hg; obtain ⟨hcz7_0, hcz7_1, hcz7_2, hcz7_3, hfz7_0, hfz7_1, hfz7_2, hfz7_3⟩ := bc4 BK1) | (go_at_call 24; (refine (q27z.calls k 0 _ _ ([] : List (S92)) _ _ ([] : List (S76)) _ _ l0_3 0 0 t2 _ ?side1 ?side2 ?side3 ?side4 ?side5 ?side6 A5.out).mono ?_); (case side1 => exact Kd.C_nil _ _); (case side2 => exact Nat.le_refl _); (case side3 => exact Kd.C_nil _ _); (case side4 => exact Nat.le_refl _); (case side5 => repeat (first | exact (Kd.C_below HR0_3.out HB.out) | (with_reducible refine Kd.C_alloc ?_ _) | (with_reducible refine Kd.C_drewN ?_ _) | (with_reducible refine Kd.C_drew ?_))); (case side6 => exact HC0_3.out); rintro e w8 ⟨rfl, hb⟩; replace BK1 := bkB BK1 hb; replace HB := hbS HB hb; (try clear hb)))
  go_ret
  exact ⟨by first | rfl | (simp [errW_none, errW_some] <;> rfl) | (simp [*, errW_none, errW_some] <;> rfl), hbW HB⟩

end Go.Proofs.Ytgelpccjdndfoaa.P
