/- Part of the proof of the law ActDoes: the functions that it reaches, by contract. -/
import Derived.Test.YtgelpccjdndfoaaCActDoes0
import Derived.Test.YtgelpccjdndfoaaCActDoes1
set_option linter.unusedVariables false
set_option linter.unusedSimpArgs false
namespace Go.Proofs.Ytgelpccjdndfoaa.P
open Go.RowKit Go.Proofs.YtgelpccjdndfoaaW.PrintWords Go.Proofs.YtgelpccjdndfoaaW.PrintLast Go.Proofs.YtgelpccjdndfoaaW.PrintMore
attribute [local go_sem] max2_int min2_int max_two min_two max_three min_three max_four min_four
/-! ### dragomanref11_TakesComms: function 21 -/
def q19z.l0 : Nat → List Int → List (S53) → Int → Int → Option (Bool)
 | 0, _, _, _, _ => none
 | k + 1, x1, x7, x8, x9 => if x9 < x8 then (if 0 ≤ x9 then (if x9 < (x7.length : Int) then ((q18z.f k ((rd_T53 x7 x9).f1) x1).bind fun t3 => (if t3 = true then (some (!((rd_T53 x7 x9).f0))) else (q19z.l0 k x1 x7 x8 (wrap64 (x9 + 1))))) else (none)) else (none)) else (some false)
def q19z.f (k : Nat) (l0 : List (S53)) (l1 : List Int) : Option (Bool) := q19z.l0 k l1 l0 (l0.length : Int) 0
theorem q19z.mono_l : ∀ k, (∀ y0 y1 y2 y3, LeO (q19z.l0 k y0 y1 y2 y3) (q19z.l0 (k + 1) y0 y1 y2 y3))
 | 0 => fun _ _ _ _ r h => by simp [q19z.l0] at h
 | k + 1 => by
  have ih0 := q19z.mono_l k
  ·
   intro y0 y1 y2 y3
   unfold q19z.l0
   repeat' first
   | (with_reducible exact ih0 _ _ _ _)
   | (with_reducible exact q18z.mono _ _ _)
   | (with_reducible exact LeO.refl _)
   | (with_reducible exact LeO.none _)
   | (with_reducible refine LeO.ite ?_ ?_)
   | (with_reducible refine LeO.bind ?_ (fun _ => ?_))
   | exact ih0 _ _ _ _
   | exact q18z.mono _ _ _
   | exact LeO.none _
   | refine LeO.ite ?_ ?_
   | refine LeO.bind ?_ (fun _ => ?_)
theorem q19z.mono : ∀ a0 a1 k, LeO (q19z.f k a0 a1) (q19z.f (k + 1) a0 a1) := by
 intro a0 a1 k
 have ih0 := q19z.mono_l k
 unfold q19z.f
 repeat' first
   | (with_reducible exact ih0 _ _ _ _)
   | (with_reducible exact q18z.mono _ _ _)
   | (with_reducible exact LeO.refl _)
   | (with_reducible exact LeO.none _)
   | (with_reducible refine LeO.ite ?_ ?_)
   | (with_reducible refine LeO.bind ?_ (fun _ => ?_))
   | exact ih0 _ _ _ _
   | exact q18z.mono _ _ _
   | exact LeO.none _
   | refine LeO.ite ?_ ?_
   | refine LeO.bind ?_ (fun _ => ?_)
set_option maxHeartbeats 8000000 in
set_option maxRecDepth 100000 in
theorem q19z.calls (k : Nat) (A0 : Option Addr) (c0 : Nat) (l0 : List (S53)) (A1 : Option Addr) (c1 : Nat) (l1 : List Int) (r : Bool) (w : World) (hr0 : Kd.C k53 w A0 l0.length l0) (hc0 : l0.length ≤ c0) (hr1 : Kd.C (Kd.int .u32) w A1 l1.length l1) (hc1 : l1.length ≤ c1) (h : q19z.f k l0 l1 = some r) :
  Calls Try.prog 21 #[.slice A0 l0.length c0, .slice A1 l1.length c1] w fun e w' => e = .returned (.bool r) ∧ Below w.heap.size w w' := by
 have hu53 := Try.underlying53
 have HR0 := Aside0.mk hr0
 have HC0 := Aside0.mk hc0
 clear hr0 hc0
 have HR1 := Aside0.mk hr1
 have HC1 := Aside0.mk hc1
 clear hr1 hc1
 have HB := Aside0.mk (Below.refl w.heap.size w)
 have H : (q19z.l0 k l1 l0 (l0.length : Int) 0) = some r := h
 clear h
 have H' := Aside0.mk H
 clear H
 go_enter Try.func21, Try.ntmps21
 go_wp2
 go_loopg [9] k (fun kq v9 w' => ∃ (x9_1 : Int), v9 = .int .i64 x9_1 ∧ Aside0 (q19z.l0 kq l1 l0 (l0.length : Int) x9_1 = some r) ∧ Aside0 (kq ≤ k) ∧ Aside0 (Below w.heap.size w w'))
 case atStart => exact ⟨(0), (by first | rfl | (simp; done) | (simp [*]; done)), H', ⟨Nat.le_refl _⟩, ⟨hbW HB⟩⟩
 case round =>
  clear H'
  try clear c1
  try clear c2
  try clear p2
  obtain ⟨x9_1, rfl, HA, HK1, HB⟩ := hrel
  cases gk with
  | zero => exact absurd HA.out (by simp [q19z.l0])
  | succ k1 =>
   have H := HA.out
   clear HA
   simp only [q19z.l0] at H
   by_cases c3 : x9_1 < (l0.length : Int)
   ·
    rw [if_pos c3] at H
    have c3b0 : decide (x9_1 < (l0.length : Int)) = true := decide_eq_true c3
    clear c3
    by_cases c4 : 0 ≤ x9_1
    ·
     rw [if_pos c4] at H
     have c4b0 : decide (0 ≤ x9_1) = true := decide_eq_true c4
     clear c4
     by_cases c5 : x9_1 < (l0.length : Int)
     ·
      rw [if_pos c5] at H
      have c5b0 : decide (x9_1 < (l0.length : Int)) = true := decide_eq_true c5
      clear c5
      replace H := Option.bind_eq_some_iff.mp H
      obtain ⟨t3, A60, H⟩ := H
      replace H : (if t3 = true then (some (!((rd_T53 l0 x9_1).f0))) else (q19z.l0 k1 l1 l0 (l0.length : Int) (wrap64 (x9_1 + 1)))) = some r := H
      have A6 := Aside0.mk A60
      clear A60
      by_cases c7 : t3 = true
      ·
       subst c7
       have H1 : (some (!((rd_T53 l0 x9_1).f0))) = some r := by rw [if_pos rfl] at H; exact H
       clear H
       have H := H1
       clear H1
       obtain rfl := Option.some.inj H
       have p1 : 0 ≤ (x9_1 : Int) := of_decide_eq_true (by first | (with_reducible assumption) | assumption)
       have q1 : x9_1 < (l0.length : Int) := of_decide_eq_true (by first | (with_reducible assumption) | assumption)
       obtain ⟨ad1, A1_1, c1_1, e1, hx1_0, hx1_1, hl1_1, hi1_1⟩ := at_T53 HR0.out x9_1 p1 q1
       cases e1
       replace hx1_0 := (HB.out.cell (World.block_lt_of_cell? w _ hx1_0)).trans hx1_0
       replace hx1_1 := (HB.out.cell (World.block_lt_of_cell? w _ hx1_1)).trans hx1_1
       have HR1_1 := Aside0.mk hi1_1
       have HC1_1 := Aside0.mk hl1_1
       clear hi1_1 hl1_1
       replace p1 := eq_true p1
       replace q1 := eq_true q1
       go_wp2_with (first | ((with_reducible refine gate_dst (N := 6) rfl ?_); refine box_event ?hg (N := 6) ?hd (cs := #[.bool false, .slice none 0 0]) (t := 53) ?hr ?_; (case hd => rfl); (case hg => rfl); (case hr => first | (go_simp; done) | (go_simp; rfl)); intro gb2 hg w8 hbox hb; have BK2 := Aside0.mk (hbox); have GW2 := gwS hg HB; have GE2 := gwS hg HB; replace HB := hbS HB hb; clear hb hbox hg; obtain ⟨hcz9_0, hcz9_1, hfz9_0, hfz9_1⟩ := bc2 BK2) | ((with_reducible refine gate_callee (f := 39) rfl ?_); refine goesL_ (some 16) rfl rfl Try.func39 (by kernel_rfl) rfl #[.slice A1_1 ((rd_T53 l0 x9_1).f1).length c1_1, .slice A1 l1.length c1] rfl (by (try simp only [List.map_toArray, List.map_cons, List.map_nil]); first | done | rfl | (simp only [List.length_drop, List.length_take]; rfl)) ?_; (with_reducible refine (q18z.calls k1 _ _ ((rd_T53 l0 x9_1).f1) _ _ l1 true _ ?side1 ?side2 ?side3 ?side4 A6.out).mono ?_); (case side1 => exact Kd.C_below HR1_1.out (hbW HB)); (case side2 => exact HC1_1.out); (case side3 => exact Kd.C_below HR1.out (hbW HB)); (case side4 => exact HC1.out); rintro e w10 ⟨rfl, hb⟩; refine ⟨_, rfl, ?_⟩; replace BK2 := Aside0.mk (blk_below (g := gb2) (o := .cells #[.bool ((rd_T53 l0 x9_1).f0), .slice A1_1 ((rd_T53 l0 x9_1).f1).length c1_1] 53 (0, 0)) (bp2 BK2) hb); replace HB := hbS HB hb; (try clear hb); obtain ⟨hcz11_0, hcz11_1, hfz11_0, hfz11_1⟩ := bc2 BK2))
       go_ret
       exact ⟨by first | rfl | (simp [errW_none, errW_some] <;> rfl) | (simp [*, errW_none, errW_some] <;> rfl), hbW HB⟩
      ·
       replace c7 := Bool.eq_false_iff.mpr c7
       subst c7
       have H1 : (q19z.l0 k1 l1 l0 (l0.length : Int) (wrap64 (x9_1 + 1))) = some r := by rw [if_neg (show ¬ (false = true) by decide)] at H; exact H
       clear H
       have H := H1
       clear H1
       have H' := Aside0.mk H
       clear H
       have p1 : 0 ≤ (x9_1 : Int) := of_decide_eq_true (by first | (with_reducible assumption) | assumption)
       have q1 : x9_1 < (l0.length : Int) := of_decide_eq_true (by first | (with_reducible assumption) | assumption)
       obtain ⟨ad1, A1_1, c1_1, e1, hx1_0, hx1_1, hl1_1, hi1_1⟩ := at_T53 HR0.out x9_1 p1 q1
       cases e1
       replace hx1_0 := (HB.out.cell (World.block_lt_of_cell? w _ hx1_0)).trans hx1_0
       replace hx1_1 := (HB.out.cell (World.block_lt_of_cell? w _ hx1_1)).trans hx1_1
       have HR1_1 := Aside0.mk hi1_1
       have HC1_1 := Aside0.mk hl1_1
       clear hi1_1 hl1_1
       replace p1 := eq_true p1
       replace q1 := eq_true q1
       go_wp2_with (first | ((with_reducible refine gate_dst (N := 6) rfl ?_); refine box_event ?hg (N := 6) ?hd (cs := #[.bool false, .slice none 0 0]) (t := 53) ?hr ?_; (case hd => rfl); (case hg => rfl); (case hr => first | (go_simp; done) | (go_simp; rfl)); intro gb2 hg w12 hbox hb; have BK2 := Aside0.mk (hbox); have GW2 := gwS hg HB; have GE2 := gwS hg HB; replace HB := hbS HB hb; clear hb hbox hg; obtain ⟨hcz13_0, hcz13_1, hfz13_0, hfz13_1⟩ := bc2 BK2) | ((with_reducible refine gate_callee (f := 39) rfl ?_); refine goesL_ (some 16) rfl rfl Try.func39 (by kernel_rfl) rfl #[.slice A1_1 ((rd_T53 l0 x9_1).f1).length c1_1, .slice A1 l1.length c1] rfl (by (try simp only [List.map_toArray, List.map_cons, List.map_nil]); first | done | rfl | (simp only [List.length_drop, List.length_take]; rfl)) ?_; (with_reducible refine (q18z.calls k1 _ _ ((rd_T53 l0 x9_1).f1) _ _ l1 false _ ?side1 ?side2 ?side3 ?side4 A6.out).mono ?_); (case side1 => exact Kd.C_below HR1_1.out (hbW HB)); (case side2 => exact HC1_1.out); (case side3 => exact Kd.C_below HR1.out (hbW HB)); (case side4 => exact HC1.out); rintro e w14 ⟨rfl, hb⟩; refine ⟨_, rfl, ?_⟩; replace BK2 := Aside0.mk (blk_below (g := gb2) (o := .cells #[.bool ((rd_T53 l0 x9_1).f0), .slice A1_1 ((rd_T53 l0 x9_1).f1).length c1_1] 53 (0, 0)) (bp2 BK2) hb); replace HB := hbS HB hb; (try clear hb)))
       go_roundg k1
       case measure => have := HK1.out; omega
       case rel => exact ⟨(wrap64 (x9_1 + 1)), (by first | rfl | (simp; done) | (simp [*]; done)), H', ⟨by have := HK1.out; omega⟩, ⟨hbW HB⟩⟩
     ·
      rw [if_neg c5] at H
      exact absurd H (by simp)
    ·
     rw [if_neg c4] at H
     exact absurd H (by simp)
   ·
    rw [if_neg c3] at H
    have c3b0 : decide (x9_1 < (l0.length : Int)) = false := decide_eq_false c3
    clear c3
    obtain rfl := Option.some.inj H
    go_wp2
    go_ret
    exact ⟨by first | rfl | (simp [errW_none, errW_some] <;> rfl) | (simp [*, errW_none, errW_some] <;> rfl), hbW HB⟩

/-! ### dragomanref03_Sorted: function 37 -/
mutual
def q20z.l0 : Nat → List Int → List Int → Int → Int → Option (List Int)
 | 0, _, _, _, _ => none
 | k + 1, x3, x8, x9, x10 => if x10 < x9 then (if 0 ≤ x10 then (if x10 < (x8.length : Int) then (q20z.l1 k x3 (rd x8 x10) 0 x8 x9 x10) else (none)) else (none)) else (some x3)
def q20z.j2 : Nat → List Int → Int → Int → List Int → Int → Int → Option (List Int)
 | 0, _, _, _, _, _, _ => none
 | k + 1, x3, x5, x6, x8, x9, x10 => if x6 < (x3.length : Int) then (if 0 ≤ x6 then (q20z.j3 k x3 x5 x6 x8 x9 x10 ((rd x3 x6) == x5)) else (none)) else (q20z.j3 k x3 x5 x6 x8 x9 x10 false)
def q20z.j3 : Nat → List Int → Int → Int → List Int → Int → Int → Bool → Option (List Int)
 | 0, _, _, _, _, _, _, _ => none
 | k + 1, x3, x5, x6, x8, x9, x10, x39 => if x39 = true then (q20z.l0 k x3 x8 x9 (wrap64 (x10 + 1))) else (if x3.length < 35184372088832 then ((some (x3 ++ [0] : List Int)).bind fun y4 => (q20z.l2 k y4 x5 x6 (wrap64 ((y4.length : Int) - 1)) x8 x9 x10)) else (none))
def q20z.l2 : Nat → List Int → Int → Int → Int → List Int → Int → Int → Option (List Int)
 | 0, _, _, _, _, _, _, _ => none
 | k + 1, x3, x5, x6, x7, x8, x9, x10 => if x7 > x6 then (if 0 ≤ (wrap64 (x7 - 1)) then (if (wrap64 (x7 - 1)) < (x3.length : Int) then (if 0 ≤ x7 then (if x7 < (x3.length : Int) then (q20z.l2 k (x3.set (x7 : Int).toNat (rd x3 (wrap64 (x7 - 1)))) x5 x6 (wrap64 (x7 - 1)) x8 x9 x10) else (none)) else (none)) else (none)) else (none)) else (if 0 ≤ x6 then (if x6 < (x3.length : Int) then (q20z.l0 k (x3.set (x6 : Int).toNat x5) x8 x9 (wrap64 (x10 + 1))) else (none)) else (none))
def q20z.l1 : Nat → List Int → Int → Int → List Int → Int → Int → Option (List Int)
 | 0, _, _, _, _, _, _ => none
 | k + 1, x3, x5, x6, x8, x9, x10 => if x6 < (x3.length : Int) then (if 0 ≤ x6 then (if (rd x3 x6) < x5 then (q20z.l1 k x3 x5 (wrap64 (x6 + 1)) x8 x9 x10) else (q20z.j2 k x3 x5 x6 x8 x9 x10)) else (none)) else (q20z.j2 k x3 x5 x6 x8 x9 x10)
end
def q20z.f (k : Nat) (l0 : List Int) : Option (List Int) := q20z.l0 k ([] : List Int) l0 (l0.length : Int) 0
theorem q20z.mono_l : ∀ k, (∀ y0 y1 y2 y3, LeO (q20z.l0 k y0 y1 y2 y3) (q20z.l0 (k + 1) y0 y1 y2 y3)) ∧ (∀ y0 y1 y2 y3 y4 y5, LeO (q20z.j2 k y0 y1 y2 y3 y4 y5) (q20z.j2 (k + 1) y0 y1 y2 y3 y4 y5)) ∧ (∀ y0 y1 y2 y3 y4 y5 y6, LeO (q20z.j3 k y0 y1 y2 y3 y4 y5 y6) (q20z.j3 (k + 1) y0 y1 y2 y3 y4 y5 y6)) ∧ (∀ y0 y1 y2 y3 y4 y5 y6, LeO (q20z.l2 k y0 y1 y2 y3 y4 y5 y6) (q20z.l2 (k + 1) y0 y1 y2 y3 y4 y5 y6)) ∧ (∀ y0 y1 y2 y3 y4 y5, LeO (q20z.l1 k y0 y1 y2 y3 y4 y5) (q20z.l1 (k + 1) y0 y1 y2 y3 y4 y5))
 | 0 => ⟨fun _ _ _ _ r h => by simp [q20z.l0] at h, fun _ _ _ _ _ _ r h => by simp [q20z.j2] at h, fun _ _ _ _ _ _ _ r h => by simp [q20z.j3] at h, fun _ _ _ _ _ _ _ r h => by simp [q20z.l2] at h, fun _ _ _ _ _ _ r h => by simp [q20z.l1] at h⟩
 | k + 1 => by
  obtain ⟨ih0, ih1, ih2, ih3, ih4⟩ := q20z.mono_l k
  refine ⟨?_, ?_, ?_, ?_, ?_⟩
  ·
   intro y0 y1 y2 y3
   unfold q20z.l0
   repeat' first
   | (with_reducible exact ih0 _ _ _ _)
   | (with_reducible exact ih1 _ _ _ _ _ _)
   | (with_reducible exact ih2 _ _ _ _ _ _ _)
   | (with_reducible exact ih3 _ _ _ _ _ _ _)
   | (with_reducible exact ih4 _ _ _ _ _ _)
   | (with_reducible exact LeO.refl _)
   | (with_reducible exact LeO.none _)
   | (with_reducible refine LeO.ite ?_ ?_)
   | (with_reducible refine LeO.bind ?_ (fun _ => ?_))
   | exact ih0 _ _ _ _
   | exact ih1 _ _ _ _ _ _
   | exact ih2 _ _ _ _ _ _ _
   | exact ih3 _ _ _ _ _ _ _
   | exact ih4 _ _ _ _ _ _
   | exact LeO.none _
   | refine LeO.ite ?_ ?_
   | refine LeO.bind ?_ (fun _ => ?_)
  ·
   intro y0 y1 y2 y3 y4 y5
   unfold q20z.j2
   repeat' first
   | (with_reducible exact ih0 _ _ _ _)
   | (with_reducible exact ih1 _ _ _ _ _ _)
   | (with_reducible exact ih2 _ _ _ _ _ _ _)
   | (with_reducible exact ih3 _ _ _ _ _ _ _)
   | (with_reducible exact ih4 _ _ _ _ _ _)
   | (with_reducible exact LeO.refl _)
   | (with_reducible exact LeO.none _)
   | (with_reducible refine LeO.ite ?_ ?_)
   | (with_reducible refine LeO.bind ?_ (fun _ => ?_))
   | exact ih0 _ _ _ _
   | exact ih1 _ _ _ _ _ _
   | exact ih2 _ _ _ _ _ _ _
   | exact ih3 _ _ _ _ _ _ _
   | exact ih4 _ _ _ _ _ _
   | exact LeO.none _
   | refine LeO.ite ?_ ?_
   | refine LeO.bind ?_ (fun _ => ?_)
  ·
   intro y0 y1 y2 y3 y4 y5 y6
   unfold q20z.j3
   repeat' first
   | (with_reducible exact ih0 _ _ _ _)
   | (with_reducible exact ih1 _ _ _ _ _ _)
   | (with_reducible exact ih2 _ _ _ _ _ _ _)
   | (with_reducible exact ih3 _ _ _ _ _ _ _)
   | (with_reducible exact ih4 _ _ _ _ _ _)
   | (with_reducible exact LeO.refl _)
   | (with_reducible exact LeO.none _)
   | (with_reducible refine LeO.ite ?_ ?_)
   | (with_reducible refine LeO.bind ?_ (fun _ => ?_))
   | exact ih0 _ _ _ _
   | exact ih1 _ _ _ _ _ _
   | exact ih2 _ _ _ _ _ _ _
   | exact ih3 _ _ _ _ _ _ _
   | exact ih4 _ _ _ _ _ _
   | exact LeO.none _
   | refine LeO.ite ?_ ?_
   | refine LeO.bind ?_ (fun _ => ?_)
  ·
   intro y0 y1 y2 y3 y4 y5 y6
   unfold q20z.l2
   repeat' first
   | (with_reducible exact ih0 _ _ _ _)
   | (with_reducible exact ih1 _ _ _ _ _ _)
   | (with_reducible exact ih2 _ _ _ _ _ _ _)
   | (with_reducible exact ih3 _ _ _ _ _ _ _)
   | (with_reducible exact ih4 _ _ _ _ _ _)
   | (with_reducible exact LeO.refl _)
   | (with_reducible exact LeO.none _)
   | (with_reducible refine LeO.ite ?_ ?_)
   | (with_reducible refine LeO.bind ?_ (fun _ => ?_))
   | exact ih0 _ _ _ _
   | exact ih1 _ _ _ _ _ _
   | exact ih2 _ _ _ _ _ _ _
   | exact ih3 _ _ _ _ _ _ _
   | exact ih4 _ _ _ _ _ _
   | exact LeO.none _
   | refine LeO.ite ?_ ?_
   | refine LeO.bind ?_ (fun _ => ?_)
  ·
   intro y0 y1 y2 y3 y4 y5
   unfold q20z.l1
   repeat' first
   | (with_reducible exact ih0 _ _ _ _)
   | (with_reducible exact ih1 _ _ _ _ _ _)
   | (with_reducible exact ih2 _ _ _ _ _ _ _)
   | (with_reducible exact ih3 _ _ _ _ _ _ _)
   | (with_reducible exact ih4 _ _ _ _ _ _)
   | (with_reducible exact LeO.refl _)
   | (with_reducible exact LeO.none _)
   | (with_reducible refine LeO.ite ?_ ?_)
   | (with_reducible refine LeO.bind ?_ (fun _ => ?_))
   | exact ih0 _ _ _ _
   | exact ih1 _ _ _ _ _ _
   | exact ih2 _ _ _ _ _ _ _
   | exact ih3 _ _ _ _ _ _ _
   | exact ih4 _ _ _ _ _ _
   | exact LeO.none _
   | refine LeO.ite ?_ ?_
   | refine LeO.bind ?_ (fun _ => ?_)
theorem q20z.mono : ∀ a0 k, LeO (q20z.f k a0) (q20z.f (k + 1) a0) := by
 intro a0 k
 obtain ⟨ih0, ih1, ih2, ih3, ih4⟩ := q20z.mono_l k
 unfold q20z.f
 repeat' first
   | (with_reducible exact ih0 _ _ _ _)
   | (with_reducible exact ih1 _ _ _ _ _ _)
   | (with_reducible exact ih2 _ _ _ _ _ _ _)
   | (with_reducible exact ih3 _ _ _ _ _ _ _)
   | (with_reducible exact ih4 _ _ _ _ _ _)
   | (with_reducible exact LeO.refl _)
   | (with_reducible exact LeO.none _)
   | (with_reducible refine LeO.ite ?_ ?_)
   | (with_reducible refine LeO.bind ?_ (fun _ => ?_))
   | exact ih0 _ _ _ _
   | exact ih1 _ _ _ _ _ _
   | exact ih2 _ _ _ _ _ _ _
   | exact ih3 _ _ _ _ _ _ _
   | exact ih4 _ _ _ _ _ _
   | exact LeO.none _
   | refine LeO.ite ?_ ?_
   | refine LeO.bind ?_ (fun _ => ?_)
set_option maxHeartbeats 8000000 in
set_option maxRecDepth 100000 in
theorem q20z.calls (k : Nat) (A0 : Option Addr) (c0 : Nat) (l0 : List Int) (r : List Int) (w : World) (hr0 : Kd.C (Kd.int .u32) w A0 l0.length l0) (hc0 : l0.length ≤ c0) (h : q20z.f k l0 = some r) :
  Calls Try.prog 37 #[.slice A0 l0.length c0] w fun e w' => ∃ v0_ : Value, e = .returned (v0_) ∧ Kd.R (Kd.int .u32) 22 w' w.heap.size (fun _ => True) v0_ r ∧ Below w.heap.size w w' := by
 have HR0 := Aside0.mk hr0
 have HC0 := Aside0.mk hc0
 clear hr0 hc0
 have HB := Aside0.mk (Below.refl w.heap.size w)
 have H : (q20z.l0 k ([] : List Int) l0 (l0.length : Int) 0) = some r := h
 clear h
 have H' := Aside0.mk H
 clear H
 go_enter Try.func37, Try.ntmps37
 go_wp2
 go_loopg [3, 10] k (fun kq v3 v10 w' => ∃ (x3_1 : List Int) (x10_1 : Int), v10 = .int .i64 x10_1 ∧ Aside0 (q20z.l0 kq x3_1 l0 (l0.length : Int) x10_1 = some r) ∧ Aside0 (kq ≤ k) ∧ Aside0 (Kd.R (Kd.int .u32) 22 w' w.heap.size (fun _ => True) v3 x3_1) ∧ Aside0 (Below w.heap.size w w'))
 case atStart => exact ⟨(([] : List Int)), (0), (by first | rfl | (simp; done) | (simp [*]; done)), H', ⟨Nat.le_refl _⟩, ⟨by first | exact Kd.R_nil _ _ _ _ _ | exact Kd.N_nil _ _ _ _ _ | exact Kd.V_nil _ _ _ _ _ | exact Kd.Q_nil _ _ _ _ _ | exact Kd.S_nil _ _ _ _ _⟩, ⟨hbW HB⟩⟩
 case round =>
  clear H'
  obtain ⟨x3_1, x10_1, rfl, HA, HK1, HO_3, HB⟩ := hrel
  cases gk with
  | zero => exact absurd HA.out (by simp [q20z.l0])
  | succ k1 =>
   have H := HA.out
   clear HA
   simp only [q20z.l0] at H
   by_cases c2 : x10_1 < (l0.length : Int)
   ·
    rw [if_pos c2] at H
    have c2b0 : decide (x10_1 < (l0.length : Int)) = true := decide_eq_true c2
    clear c2
    by_cases c3 : 0 ≤ x10_1
    ·
     rw [if_pos c3] at H
     have c3b0 : decide (0 ≤ x10_1) = true := decide_eq_true c3
     clear c3
     by_cases c4 : x10_1 < (l0.length : Int)
     ·
      rw [if_pos c4] at H
      have c4b0 : decide (x10_1 < (l0.length : Int)) = true := decide_eq_true c4
      clear c4
      have HC5 := Aside0.mk H
      clear H
      have p1 : 0 ≤ (x10_1 : Int) := of_decide_eq_true (by first | (with_reducible assumption) | assumption)
      have q1 : x10_1 < (l0.length : Int) := of_decide_eq_true (by first | (with_reducible assumption) | assumption)
      obtain ⟨ad1, e1, hx1_0⟩ := Kd.at_int HR0.out x10_1 p1 q1
      cases e1
      replace hx1_0 := (HB.out.cell (World.block_lt_of_cell? w _ hx1_0)).trans hx1_0
      replace p1 := eq_true p1
      replace q1 := eq_true q1
      go_upto_block 2 with (fail)
      go_cut [6] (fun v6 wc => ∃ (kq : Nat) (x6_4 : Int), v6 = .int .i64 x6_4 ∧ Aside0 (q20z.j2 kq x3_1 (rd l0 x10_1) x6_4 l0 (l0.length : Int) x10_1 = some r) ∧ Aside0 (kq ≤ k1) ∧ Aside0 (Kd.R (Kd.int .u32) 22 wc w.heap.size (fun _ => True) u3 x3_1) ∧ Aside0 (Below w.heap.size w wc))
      case first =>
       have H := HC5.out
       clear HC5
       have H' := Aside0.mk H
       clear H
       go_wp2
       go_loopg [6] k1 (fun kq v6 w' => ∃ (x6_2 : Int), v6 = .int .i64 x6_2 ∧ Aside0 (q20z.l1 kq x3_1 (rd l0 x10_1) x6_2 l0 (l0.length : Int) x10_1 = some r) ∧ Aside0 (kq ≤ k1) ∧ Aside0 (Kd.R (Kd.int .u32) 22 w' w.heap.size (fun _ => True) u3 x3_1) ∧ Aside0 (Below w.heap.size w w'))
       case atStart => exact ⟨(0), (by first | rfl | (simp; done) | (simp [*]; done)), H', ⟨Nat.le_refl _⟩, ⟨by (with_reducible repeat (first | apply Kd.R_alloc | apply Kd.R_drewN | apply Kd.R_drew)); exact HO_3.out⟩, ⟨hbW HB⟩⟩
       case round =>
        clear H'
        try clear p1
        try clear q1
        try clear hx1
        try clear c2
        try clear c2b0
        try clear p2
        try clear c3
        try clear c3b0
        try clear c4
        try clear c4b0
        try clear hx1_0
        try clear p1
        try clear q1
        obtain ⟨x6_2, rfl, HA, HK2, HO_3, HB⟩ := hrel
        cases gk with
        | zero => exact absurd HA.out (by simp [q20z.l1])
        | succ k2 =>
         have H := HA.out
         clear HA
         simp only [q20z.l1] at H
         by_cases c6 : x6_2 < (x3_1.length : Int)
         ·
          rw [if_pos c6] at H
          have c6b0 : decide (x6_2 < (x3_1.length : Int)) = true := decide_eq_true c6
          clear c6
          (first | rw [c6b0] | (simp only [i64_w, i32_w, IntKind.wrap_u32]; rw [c6b0]) | skip)
          by_cases c7 : 0 ≤ x6_2
          ·
           rw [if_pos c7] at H
           have c7b0 : decide (0 ≤ x6_2) = true := decide_eq_true c7
           clear c7
           by_cases c8 : (rd x3_1 x6_2) < (rd l0 x10_1)
           ·
            rw [if_pos c8] at H
            have c8b0 : decide ((rd x3_1 x6_2) < (rd l0 x10_1)) = true := decide_eq_true c8
            clear c8
            have H' := Aside0.mk H
            clear H
            obtain ⟨Ao9, co9, eo9⟩ := Kd.R_slice HO_3.out
            subst eo9
            have p2 : 0 ≤ (x6_2 : Int) := of_decide_eq_true (by first | (with_reducible assumption) | assumption)
            have q2 : x6_2 < (x3_1.length : Int) := of_decide_eq_true (by first | (with_reducible assumption) | assumption)
            obtain ⟨ad2, e2, hx2_0⟩ := Kd.at_int (Kd.R_reads' HO_3.out).2.2 x6_2 p2 q2
            cases e2
            replace p2 := eq_true p2
            replace q2 := eq_true q2
            go_wp2
            go_roundg k2
            case measure => have := HK1.out; have := HK2.out; omega
            case rel => exact ⟨(wrap64 (x6_2 + 1)), (by first | rfl | (simp; done) | (simp [*]; done)), H', ⟨by have := HK1.out; have := HK2.out; omega⟩, ⟨by (with_reducible repeat (first | apply Kd.R_alloc | apply Kd.R_drewN | apply Kd.R_drew)); exact HO_3.out⟩, ⟨hbW HB⟩⟩
           ·
            rw [if_neg c8] at H
            have c8b0 : decide ((rd x3_1 x6_2) < (rd l0 x10_1)) = false := decide_eq_false c8
            clear c8
            have H' := Aside0.mk H
            clear H
            obtain ⟨Ao10, co10, eo10⟩ := Kd.R_slice HO_3.out
            subst eo10
            have p2 : 0 ≤ (x6_2 : Int) := of_decide_eq_true (by first | (with_reducible assumption) | assumption)
            have q2 : x6_2 < (x3_1.length : Int) := of_decide_eq_true (by first | (with_reducible assumption) | assumption)
            obtain ⟨ad2, e2, hx2_0⟩ := Kd.at_int (Kd.R_reads' HO_3.out).2.2 x6_2 p2 q2
            cases e2
            replace p2 := eq_true p2
            replace q2 := eq_true q2
            go_wp2
            go_meet
            case rel => exact ⟨_, (x6_2), (by first | rfl | (simp; done) | (simp [*]; done)), H', ⟨by have := HK1.out; have := HK2.out; first | omega | exact Nat.le_refl _⟩, ⟨by (with_reducible repeat (first | apply Kd.R_alloc | apply Kd.R_drewN | apply Kd.R_drew)); exact HO_3.out⟩, ⟨hbW HB⟩⟩
          ·
           rw [if_neg c7] at H
           exact absurd H (by simp)
         ·
          rw [if_neg c6] at H
          have c6b0 : decide (x6_2 < (x3_1.length : Int)) = false := decide_eq_false c6
          clear c6
          (first | rw [c6b0] | (simp only [i64_w, i32_w, IntKind.wrap_u32]; rw [c6b0]) | skip)
          have H' := Aside0.mk H
          clear H
          obtain ⟨Ao11, co11, eo11⟩ := Kd.R_slice HO_3.out
          subst eo11
          go_wp2
          go_meet
          case rel => exact ⟨_, (x6_2), (by first | rfl | (simp; done) | (simp [*]; done)), H', ⟨by have := HK1.out; have := HK2.out; first | omega | exact Nat.le_refl _⟩, ⟨by (with_reducible repeat (first | apply Kd.R_alloc | apply Kd.R_drewN | apply Kd.R_drew)); exact HO_3.out⟩, ⟨hbW HB⟩⟩
      case rest =>
       clear HC5
       try clear p1
       try clear q1
       try clear hx1
       try clear c2
       try clear c2b0
       try clear p2
       try clear q2
       try clear hx2
       try clear c3
       try clear c3b0
       try clear c4
       try clear c4b0
       try clear c6
       try clear c6b0
       try clear p6
       try clear c7
       try clear c7b0
       try clear c8
       try clear c8b0
       try clear hx1_0
       try clear hx2_0
       try clear p1
       try clear p2
       try clear q1
       try clear q2
       obtain ⟨kq, x6_4, rfl, HA, HJ4, HO_3, HB⟩ := hcut
       cases kq with
       | zero => exact absurd HA.out (by simp [q20z.j2])
       | succ kj4 =>
        have H := HA.out
        clear HA
        simp only [q20z.j2] at H
        have HC12 := Aside0.mk H
        clear H
        go_upto_region 8 with (fail)
        go_cut [39] (fun v39 wc => ∃ (kq : Nat) (x39_11 : Bool), v39 = .bool x39_11 ∧ Aside0 (q20z.j3 kq x3_1 (rd l0 x10_1) x6_4 l0 (l0.length : Int) x10_1 x39_11 = some r) ∧ Aside0 (kq ≤ kj4) ∧ Aside0 (Kd.R (Kd.int .u32) 22 wc w.heap.size (fun _ => True) u3 x3_1) ∧ Aside0 (Below w.heap.size w wc))
        case first =>
         have H := HC12.out
         clear HC12
         by_cases c13 : x6_4 < (x3_1.length : Int)
         ·
          rw [if_pos c13] at H
          have c13b0 : decide (x6_4 < (x3_1.length : Int)) = true := decide_eq_true c13
          clear c13
          (first | rw [c13b0] | (simp only [i64_w, i32_w, IntKind.wrap_u32]; rw [c13b0]) | skip)
          by_cases c14 : 0 ≤ x6_4
          ·
           rw [if_pos c14] at H
           have c14b0 : decide (0 ≤ x6_4) = true := decide_eq_true c14
           clear c14
           have H' := Aside0.mk H
           clear H
           obtain ⟨Ao15, co15, eo15⟩ := Kd.R_slice HO_3.out
           subst eo15
           have p3 : 0 ≤ (x6_4 : Int) := of_decide_eq_true (by first | (with_reducible assumption) | assumption)
           have q3 : x6_4 < (x3_1.length : Int) := of_decide_eq_true (by first | (with_reducible assumption) | assumption)
           obtain ⟨ad3, e3, hx3_0⟩ := Kd.at_int (Kd.R_reads' HO_3.out).2.2 x6_4 p3 q3
           cases e3
           replace p3 := eq_true p3
           replace q3 := eq_true q3
           go_wp2
           go_meet
           case rel => exact ⟨_, (((rd x3_1 x6_4) == (rd l0 x10_1))), (by first | rfl | (simp; done) | (simp [*]; done)), H', ⟨by have := HK1.out; have := HJ4.out; first | omega | exact Nat.le_refl _⟩, ⟨by (with_reducible repeat (first | apply Kd.R_alloc | apply Kd.R_drewN | apply Kd.R_drew)); exact HO_3.out⟩, ⟨hbW HB⟩⟩
          ·
           rw [if_neg c14] at H
           exact absurd H (by simp)
         ·
          rw [if_neg c13] at H
          have c13b0 : decide (x6_4 < (x3_1.length : Int)) = false := decide_eq_false c13
          clear c13
          (first | rw [c13b0] | (simp only [i64_w, i32_w, IntKind.wrap_u32]; rw [c13b0]) | skip)
          have H' := Aside0.mk H
          clear H
          obtain ⟨Ao16, co16, eo16⟩ := Kd.R_slice HO_3.out
          subst eo16
          go_wp2
          go_meet
          case rel => exact ⟨_, (false), (by first | rfl | (simp; done) | (simp [*]; done)), H', ⟨by have := HK1.out; have := HJ4.out; first | omega | exact Nat.le_refl _⟩, ⟨by (with_reducible repeat (first | apply Kd.R_alloc | apply Kd.R_drewN | apply Kd.R_drew)); exact HO_3.out⟩, ⟨hbW HB⟩⟩
        case rest =>
         clear HC12
         try clear c1
         try clear p1
         try clear q1
         try clear hx1
         try clear c2
         try clear c2b0
         try clear p2
         try clear q2
         try clear hx2
         try clear c3
         try clear c3b0
         try clear p3
         try clear q3
         try clear hx3
         try clear c4
         try clear c4b0
         try clear c6
         try clear c6b0
         try clear p6
         try clear c7
         try clear c7b0
         try clear c8
         try clear c8b0
         try clear c13
         try clear c13b0
         try clear c14
         try clear c14b0
         try clear hx1_0
         try clear hx2_0
         try clear hx3_0
         try clear p1
         try clear p2
         try clear p3
         try clear p6
         try clear q1
         try clear q2
         try clear q3
         obtain ⟨kq, x39_11, rfl, HA, HJ11, HO_3, HB⟩ := hcut
         cases kq with
         | zero => exact absurd HA.out (by simp [q20z.j3])
         | succ kj11 =>
          have H := HA.out
          clear HA
          simp only [q20z.j3] at H
          by_cases c17 : x39_11 = true
          ·
           subst c17
           have H1 : (q20z.l0 kj11 x3_1 l0 (l0.length : Int) (wrap64 (x10_1 + 1))) = some r := by rw [if_pos rfl] at H; exact H
           clear H
           have H := H1
           clear H1
           have H' := Aside0.mk H
           clear H
           go_wp2
           go_roundg kj11
           case measure => have := HK1.out; have := HJ4.out; have := HJ11.out; omega
           case rel => exact ⟨(x3_1), (wrap64 (x10_1 + 1)), (by first | rfl | (simp; done) | (simp [*]; done)), H', ⟨by have := HK1.out; have := HJ4.out; have := HJ11.out; omega⟩, ⟨by (with_reducible repeat (first | apply Kd.R_alloc | apply Kd.R_drewN | apply Kd.R_drew)); exact HO_3.out⟩, ⟨hbW HB⟩⟩
          ·
           replace c17 := Bool.eq_false_iff.mpr c17
           subst c17
           have H1 : (if x3_1.length < 35184372088832 then ((some (x3_1 ++ [0] : List Int)).bind fun y4 => (q20z.l2 kj11 y4 (rd l0 x10_1) x6_4 (wrap64 ((y4.length : Int) - 1)) l0 (l0.length : Int) x10_1)) else (none)) = some r := by rw [if_neg (show ¬ (false = true) by decide)] at H; exact H
           clear H
           have H := H1
           clear H1
           by_cases c18 : x3_1.length < 35184372088832
           ·
            rw [if_pos c18] at H
            have LMc18 := Aside0.mk c18
            clear c18
            obtain ⟨y4, hy4⟩ : ∃ y_ : List Int, y_ = (x3_1 ++ [0]) := ⟨_, rfl⟩
            replace H : (q20z.l2 kj11 y4 (rd l0 x10_1) x6_4 (wrap64 ((y4.length : Int) - 1)) l0 (l0.length : Int) x10_1) = some r := by first | (rw [hy4]; with_reducible exact H) | (have H2_ := (Option.bind_some _ _).symm.trans H; rw [hy4]; with_reducible exact H2_) | (have H2_ := (Option.bind_some _ _).symm.trans H; with_reducible exact H2_) | with_reducible exact H | (rw [hy4]; exact H) | exact H
            have Ny4 := Aside0.mk hy4
            clear hy4
            have H' := Aside0.mk H
            clear H
            go_wp2_with (first | ((with_reducible refine gate_builtin (b := .append) (xs := #[.tmp 40, .tmp 41]) rfl ?_); at_builtin; refine Kd.R_append (Kd.int .u32) (w0 := w) w.heap.size rfl (.tmp 40) (.tmp 41) 23 22 (.int .u32 0) 4 rfl Try.underlying23 info22 rfl (by decide) (by omega) u3 x3_1 0 [.int .u32 0] (fun _ => True) (fun _ => False) rfl rfl ?aP (fun _ hk => hk.elim) ?aF ?aO ?aB ?aS ?aL ?_; (case aP => exact rfl); (case aB => exact (hbW HB)); (case aF => exact (fun _ _ => trivial)); (case aO => exact (rW HO_3)); (case aS => exact (below_size (hbW HB))); (case aL => have := LMc18.out; omega); intro v5 w19 ho hb hg hat; rw [← Ny4.out] at ho; have n0_ := Aside0.mk (hb); have n1_ := Aside0.mk (ho); clear HB; clear HO_3; have HB := n0_; have HO6 := n1_; clear n0_ n1_; clear ho hb hg hat; obtain ⟨Ao20, co20, eo20⟩ := Kd.R_slice HO6.out; subst eo20))
            go_loopg [7] kj11 (fun kq v7 w' => ∃ (x3_4 : List Int) (x7_4 : Int), v7 = .int .i64 x7_4 ∧ Aside0 (q20z.l2 kq x3_4 (rd l0 x10_1) x6_4 x7_4 l0 (l0.length : Int) x10_1 = some r) ∧ Aside0 (kq ≤ kj11) ∧ Aside0 (Kd.R (Kd.int .u32) 22 w' w.heap.size (fun _ => True) (.slice Ao20 y4.length co20) x3_4) ∧ Aside0 (Below w.heap.size w w'))
            case atStart => exact ⟨(y4), (wrap64 ((y4.length : Int) - 1)), (by first | rfl | (simp; done) | (simp [*]; done)), H', ⟨Nat.le_refl _⟩, ⟨by (with_reducible repeat (first | apply Kd.R_alloc | apply Kd.R_drewN | apply Kd.R_drew)); exact HO6.out⟩, ⟨hbW HB⟩⟩
            case round =>
             clear H'
             try clear c1
             try clear p1
             try clear q1
             try clear hx1
             try clear c2
             try clear c2b0
             try clear p2
             try clear q2
             try clear hx2
             try clear c3
             try clear c3b0
             try clear p3
             try clear q3
             try clear hx3
             try clear c4
             try clear c4b0
             try clear c6
             try clear c6b0
             try clear p6
             try clear c7
             try clear c7b0
             try clear c8
             try clear c8b0
             try clear c13
             try clear c13b0
             try clear c14
             try clear c14b0
             try clear c17
             try clear c18
             try clear hx1_0
             try clear hx2_0
             try clear hx3_0
             try clear p1
             try clear p2
             try clear p3
             try clear p6
             try clear q1
             try clear q2
             try clear q3
             obtain ⟨x3_4, x7_4, rfl, HA, HK4, HO_3, HB⟩ := hrel
             have hl3_4 := (Kd.R_reads' HO_3.out).1
             rw [hl3_4] at HO_3
             (try simp only [hl3_4])
             cases gk with
             | zero => exact absurd HA.out (by simp [q20z.l2])
             | succ k4 =>
              have H := HA.out
              clear HA
              simp only [q20z.l2] at H
              by_cases c21 : x7_4 > x6_4
              ·
               rw [if_pos c21] at H
               have c21b0 : decide (x6_4 < x7_4) = true := decide_eq_true c21
               clear c21
               obtain ⟨ji22, hji22⟩ : ∃ j_ : Int, (wrap64 (x7_4 - 1)) = j_ := ⟨_, rfl⟩
               replace H : (if 0 ≤ (ji22) then (if (ji22) < (x3_4.length : Int) then (if 0 ≤ x7_4 then (if x7_4 < (x3_4.length : Int) then (q20z.l2 k4 (x3_4.set (x7_4 : Int).toNat (rd x3_4 (ji22))) (rd l0 x10_1) x6_4 ji22 l0 (l0.length : Int) x10_1) else (none)) else (none)) else (none)) else (none)) = some r := by first | (rw [hji22] at H; exact H) | (simp only [hji22] at H ⊢; exact H)
               have hji22w : (IntKind.i64.wrap (x7_4 - 1)) = ji22 := (i64_w _).trans hji22
               by_cases c23 : 0 ≤ (ji22)
               ·
                rw [if_pos c23] at H
                have c23b0 : decide (0 ≤ (ji22)) = true := decide_eq_true c23
                clear c23
                by_cases c24 : (ji22) < (x3_4.length : Int)
                ·
                 rw [if_pos c24] at H
                 have c24b0 : decide ((ji22) < (x3_4.length : Int)) = true := decide_eq_true c24
                 clear c24
                 by_cases c25 : 0 ≤ x7_4
                 ·
                  rw [if_pos c25] at H
                  have c25b0 : decide (0 ≤ x7_4) = true := decide_eq_true c25
                  clear c25
                  by_cases c26 : x7_4 < (x3_4.length : Int)
                  ·
                   rw [if_pos c26] at H
                   have c26b0 : decide (x7_4 < (x3_4.length : Int)) = true := decide_eq_true c26
                   clear c26
                   obtain ⟨y8, hy8⟩ : ∃ y_ : List Int, y_ = (x3_4.set (x7_4 : Int).toNat (rd x3_4 (ji22))) := ⟨_, rfl⟩
                   replace H : (q20z.l2 k4 y8 (rd l0 x10_1) x6_4 ji22 l0 (l0.length : Int) x10_1) = some r := by first | (rw [hy8]; with_reducible exact H) | (have H2_ := (Option.bind_some _ _).symm.trans H; rw [hy8]; with_reducible exact H2_) | (have H2_ := (Option.bind_some _ _).symm.trans H; with_reducible exact H2_) | with_reducible exact H | (rw [hy8]; exact H) | exact H
                   have Ny8 := Aside0.mk hy8
                   clear hy8
                   have H' := Aside0.mk H
                   clear H
                   have p7 : 0 ≤ ((ji22) : Int) := of_decide_eq_true (by first | (with_reducible assumption) | assumption)
                   have q7 : (ji22) < (x3_4.length : Int) := of_decide_eq_true (by first | (with_reducible assumption) | assumption)
                   obtain ⟨ad7, e7, hx7_0⟩ := Kd.at_int (Kd.R_reads' HO_3.out).2.2 (ji22) p7 q7
                   cases e7
                   replace p7 := eq_true p7
                   replace q7 := eq_true q7
                   have p27 : 0 ≤ (x7_4 : Int) := of_decide_eq_true (by first | (with_reducible assumption) | assumption)
                   have q27 : (x7_4 : Int) < ((x3_4.length : Int) : Int) := of_decide_eq_true (by first | (with_reducible assumption) | assumption)
                   obtain ⟨go27, co27, eo27, gb27, gl27, cl27, HG27⟩ := Kd.R_form HO_3.out (by omega)
                   (first | cases eo27 | (injection eo27 with ea_ en_ ec_; (first | subst ea_ | (injection ea_ with ea_; subst ea_)); subst ec_; clear en_))
                   have GB27 := Aside0.mk gb27
                   have GG27 := Aside0.mk HG27
                   clear gb27 gl27 HG27
                   (first | simp only [add_plain] at hx7_0 | skip)
                   obtain ⟨hx27_0, hf27_0⟩ := Kd.R_celln 0 HO_3.out (x7_4 : Int) p27 q27
                   replace p27 := eq_true p27
                   replace q27 := eq_true q27
                   have HP28 := Kd.R_putg HO_3.out (x7_4 : Int) (rd x3_4 (ji22))
                   go_wp2_with (first | ((with_reducible refine gate_store (t := 22) (p := 58) rfl ?_); refine store_event (t := 22) (p := 58) (v := ?vo_w29) (w1 := (wr.setCell ⟨go27, (x7_4 : Int).toNat, none⟩ (.int .u32 (rd x3_4 (ji22))))) ?hg ?ho ?hn ?hr ?_; (case ho => rfl); (case hg => rfl); (case hn => rfl); (case hr => first | (go_simp; done) | (go_simp; rfl)); intro w29 hw; have hg : wr.grownBy w29 (some go27) := (by rw [hw]; exact HP28.2); have hp_ : Kd.R (Kd.int .u32) 22 w29 w.heap.size (fun _ => True) (.slice (some ⟨go27, 0, none⟩) x3_4.length co20) y8 := (by rw [hw, Ny8.out]; exact HP28.1); clear HP28; replace HO_3 := Aside0.mk (hp_); replace HB := Aside0.mk ((by rw [hw]; exact below_set (HB.out) GB27.out : Below w.heap.size w w29)); clear hg hw hp_))
                   (try simp only [← hl3_4])
                   go_roundg k4
                   case measure => have := HK1.out; have := HJ4.out; have := HJ11.out; have := HK4.out; omega
                   case rel => exact ⟨(y8), (ji22), (by first | rfl | (simp; done) | (simp only [← hji22] <;> (first | rfl | simp)) | (simp [*]; done)), H', ⟨by have := HK1.out; have := HJ4.out; have := HJ11.out; have := HK4.out; omega⟩, ⟨by (try simp only [hl3_4]); (with_reducible repeat (first | apply Kd.R_alloc | apply Kd.R_drewN | apply Kd.R_drew)); exact HO_3.out⟩, ⟨hbW HB⟩⟩
                  ·
                   rw [if_neg c26] at H
                   exact absurd H (by simp)
                 ·
                  rw [if_neg c25] at H
                  exact absurd H (by simp)
                ·
                 rw [if_neg c24] at H
                 exact absurd H (by simp)
               ·
                rw [if_neg c23] at H
                exact absurd H (by simp)
              ·
               rw [if_neg c21] at H
               have c21b0 : decide (x6_4 < x7_4) = false := decide_eq_false c21
               clear c21
               by_cases c30 : 0 ≤ x6_4
               ·
                rw [if_pos c30] at H
                have c30b0 : decide (0 ≤ x6_4) = true := decide_eq_true c30
                clear c30
                by_cases c31 : x6_4 < (x3_4.length : Int)
                ·
                 rw [if_pos c31] at H
                 have c31b0 : decide (x6_4 < (x3_4.length : Int)) = true := decide_eq_true c31
                 clear c31
                 obtain ⟨y9, hy9⟩ : ∃ y_ : List Int, y_ = (x3_4.set (x6_4 : Int).toNat (rd l0 x10_1)) := ⟨_, rfl⟩
                 replace H : (q20z.l0 k4 y9 l0 (l0.length : Int) (wrap64 (x10_1 + 1))) = some r := by first | (rw [hy9]; with_reducible exact H) | (have H2_ := (Option.bind_some _ _).symm.trans H; rw [hy9]; with_reducible exact H2_) | (have H2_ := (Option.bind_some _ _).symm.trans H; with_reducible exact H2_) | with_reducible exact H | (rw [hy9]; exact H) | exact H
                 have Ny9 := Aside0.mk hy9
                 clear hy9
                 have H' := Aside0.mk H
                 clear H
                 have p32 : 0 ≤ (x6_4 : Int) := of_decide_eq_true (by first | (with_reducible assumption) | assumption)
                 have q32 : (x6_4 : Int) < ((x3_4.length : Int) : Int) := of_decide_eq_true (by first | (with_reducible assumption) | assumption)
                 obtain ⟨go32, co32, eo32, gb32, gl32, cl32, HG32⟩ := Kd.R_form HO_3.out (by omega)
                 (first | cases eo32 | (injection eo32 with ea_ en_ ec_; (first | subst ea_ | (injection ea_ with ea_; subst ea_)); subst ec_; clear en_))
                 have GB32 := Aside0.mk gb32
                 have GG32 := Aside0.mk HG32
                 clear gb32 gl32 HG32
                 obtain ⟨hx32_0, hf32_0⟩ := Kd.R_celln 0 HO_3.out (x6_4 : Int) p32 q32
                 replace p32 := eq_true p32
                 replace q32 := eq_true q32
                 have HP33 := Kd.R_putg HO_3.out (x6_4 : Int) (rd l0 x10_1)
                 go_wp2_with (first | ((with_reducible refine gate_store (t := 22) (p := 62) rfl ?_); refine store_event (t := 22) (p := 62) (v := ?vo_w34) (w1 := (wr.setCell ⟨go32, (x6_4 : Int).toNat, none⟩ (.int .u32 (rd l0 x10_1)))) ?hg ?ho ?hn ?hr ?_; (case ho => rfl); (case hg => rfl); (case hn => rfl); (case hr => first | (go_simp; done) | (go_simp; rfl)); intro w34 hw; have hg : wr.grownBy w34 (some go32) := (by rw [hw]; exact HP33.2); have hp_ : Kd.R (Kd.int .u32) 22 w34 w.heap.size (fun _ => True) (.slice (some ⟨go32, 0, none⟩) x3_4.length co20) y9 := (by rw [hw, Ny9.out]; exact HP33.1); clear HP33; replace HO_3 := Aside0.mk (hp_); replace HB := Aside0.mk ((by rw [hw]; exact below_set (HB.out) GB32.out : Below w.heap.size w w34)); clear hg hw hp_))
                 (try simp only [← hl3_4])
                 go_roundg k4
                 case measure => have := HK1.out; have := HJ4.out; have := HJ11.out; have := HK4.out; omega
                 case rel => exact ⟨(y9), (wrap64 (x10_1 + 1)), (by first | rfl | (simp; done) | (simp [*]; done)), H', ⟨by have := HK1.out; have := HJ4.out; have := HJ11.out; have := HK4.out; omega⟩, ⟨by (try simp only [hl3_4]); (with_reducible repeat (first | apply Kd.R_alloc | apply Kd.R_drewN | apply Kd.R_drew)); exact HO_3.out⟩, ⟨hbW HB⟩⟩
                ·
                 rw [if_neg c31] at H
                 exact absurd H (by simp)
               ·
                rw [if_neg c30] at H
                exact absurd H (by simp)
           ·
            rw [if_neg c18] at H
            exact absurd H (by simp)
     ·
      rw [if_neg c4] at H
      exact absurd H (by simp)
    ·
     rw [if_neg c3] at H
     exact absurd H (by simp)
   ·
    rw [if_neg c2] at H
    have c2b0 : decide (x10_1 < (l0.length : Int)) = false := decide_eq_false c2
    clear c2
    obtain rfl := Option.some.inj H
    go_wp2
    go_ret
    exact ⟨_, by first | rfl | (simp [errW_none, errW_some] <;> rfl) | (simp [*, errW_none, errW_some] <;> rfl), by (with_reducible repeat (first | apply Kd.R_alloc | apply Kd.R_drewN | apply Kd.R_drew)); exact HO_3.out, hbW HB⟩

/-! ### dragomanref12_Do: function 17 -/
def q21z.l0 : Nat → List Int → List Int → Int → Int → Int → Int → List Int → List (S53) → Int → Int → List Int → List Int → Int → Int → Int → Int → Option (Int × Int × List Int × List Int × Int × Int × Int × Int)
 | 0, _, _, _, _, _, _, _, _, _, _, _, _, _, _, _, _ => none
 | k + 1, x5, x65, x66, x67, x2000, x2001, x2002, x2003, x3000, x3001, x3002, x3003, x3004, x3005, x3006, x3007 => if x67 < x66 then (if 0 ≤ x67 then (if x67 < (x65.length : Int) then ((q19z.f k x2003 (([rd x65 x67] : List Int))).bind fun t39 => (if t39 = true then (q21z.l0 k x5 x65 x66 (wrap64 (x67 + 1)) x2000 x2001 x2002 x2003 x3000 x3001 x3002 x3003 x3004 x3005 x3006 x3007) else (if x5.length < 35184372088832 then (q21z.l0 k (x5 ++ [rd x65 x67]) x65 x66 (wrap64 (x67 + 1)) x2000 x2001 x2002 x2003 x3000 x3001 x3002 x3003 x3004 x3005 x3006 x3007) else (none)))) else (none)) else (none)) else ((q20z.f k x5).bind fun t43 => (some (x3000, x3001, x3002, t43, x3004, x3005, x3006, x3007)))
def q21z.f (k : Nat) (a0_0 : Int) (a0_1 : Int) (l0_2 : List Int) (l0_3 : List (S53)) (a1_0 : Int) (a1_1 : Int) (l1_2 : List Int) (l1_3 : List Int) (a1_4 : Int) (a1_5 : Int) (a1_6 : Int) (a1_7 : Int) : Option (Int × Int × List Int × List Int × Int × Int × Int × Int) := (q4z.f a1_0 a1_1 l1_2 l1_3 a1_4 a1_5 a1_6 a1_7).bind fun bt4 => ((q13z.f k a0_0 a0_1 l0_2 l0_3).bind fun t16 => (if t16 = true then (if a0_0 = 1 then (some (bt4.1, bt4.2.1, bt4.2.2.1, bt4.2.2.2.1, a0_1, bt4.2.2.2.2.2.1, bt4.2.2.2.2.2.2.1, bt4.2.2.2.2.2.2.2)) else (if a0_0 = 2 then (some (bt4.1, bt4.2.1, bt4.2.2.1, bt4.2.2.2.1, bt4.2.2.2.2.1, a0_1, bt4.2.2.2.2.2.2.1, bt4.2.2.2.2.2.2.2)) else (if a0_0 = 3 then (some (bt4.1, bt4.2.1, bt4.2.2.1, bt4.2.2.2.1, bt4.2.2.2.2.1, bt4.2.2.2.2.2.1, wrap64 (a0_1), bt4.2.2.2.2.2.2.2)) else (if a0_0 = 4 then (some (bt4.1, bt4.2.1, bt4.2.2.1, bt4.2.2.2.1, bt4.2.2.2.2.1, bt4.2.2.2.2.2.1, bt4.2.2.2.2.2.2.1, a0_1)) else (if a0_0 = 5 then ((some (([] : List Int) : List Int)).bind fun y17 => (if y17.length + l0_2.length < 35184372088832 then ((some (y17 ++ l0_2 : List Int)).bind fun y20 => (if y20.length + bt4.2.2.1.length < 35184372088832 then (some (bt4.1, bt4.2.1, (y20 ++ bt4.2.2.1), bt4.2.2.2.1, bt4.2.2.2.2.1, bt4.2.2.2.2.2.1, bt4.2.2.2.2.2.2.1, bt4.2.2.2.2.2.2.2)) else (none))) else (none))) else (if a0_0 = 6 then (if bt4.2.2.2.1.length + l0_2.length < 35184372088832 then ((q20z.f k (bt4.2.2.2.1 ++ l0_2)).bind fun t29 => (some (bt4.1, bt4.2.1, bt4.2.2.1, t29, bt4.2.2.2.2.1, bt4.2.2.2.2.2.1, bt4.2.2.2.2.2.2.1, bt4.2.2.2.2.2.2.2))) else (none)) else (if a0_0 = 7 then ((q20z.f k l0_2).bind fun t32 => (some (bt4.1, bt4.2.1, bt4.2.2.1, t32, bt4.2.2.2.2.1, bt4.2.2.2.2.2.1, bt4.2.2.2.2.2.2.1, bt4.2.2.2.2.2.2.2))) else (if a0_0 = 8 then (q21z.l0 k ([] : List Int) bt4.2.2.2.1 (bt4.2.2.2.1.length : Int) 0 a0_0 a0_1 l0_2 l0_3 bt4.1 bt4.2.1 bt4.2.2.1 bt4.2.2.2.1 bt4.2.2.2.2.1 bt4.2.2.2.2.2.1 bt4.2.2.2.2.2.2.1 bt4.2.2.2.2.2.2.2) else (some (bt4.1, bt4.2.1, bt4.2.2.1, bt4.2.2.2.1, bt4.2.2.2.2.1, bt4.2.2.2.2.2.1, bt4.2.2.2.2.2.2.1, bt4.2.2.2.2.2.2.2)))))))))) else (some (bt4.1, bt4.2.1, bt4.2.2.1, bt4.2.2.2.1, bt4.2.2.2.2.1, bt4.2.2.2.2.2.1, bt4.2.2.2.2.2.2.1, bt4.2.2.2.2.2.2.2))))
theorem q21z.mono_l : ∀ k, (∀ y0 y1 y2 y3 y4 y5 y6 y7 y8 y9 y10 y11 y12 y13 y14 y15, LeO (q21z.l0 k y0 y1 y2 y3 y4 y5 y6 y7 y8 y9 y10 y11 y12 y13 y14 y15) (q21z.l0 (k + 1) y0 y1 y2 y3 y4 y5 y6 y7 y8 y9 y10 y11 y12 y13 y14 y15))
 | 0 => fun _ _ _ _ _ _ _ _ _ _ _ _ _ _ _ _ r h => by simp [q21z.l0] at h
 | k + 1 => by
  have ih0 := q21z.mono_l k
  ·
   intro y0 y1 y2 y3 y4 y5 y6 y7 y8 y9 y10 y11 y12 y13 y14 y15
   unfold q21z.l0
   repeat' first
   | (with_reducible exact ih0 _ _ _ _ _ _ _ _ _ _ _ _ _ _ _ _)
   | (with_reducible exact q20z.mono _ _)
   | (with_reducible exact q19z.mono _ _ _)
   | (with_reducible exact q13z.mono _ _ _ _ _)
   | (with_reducible exact LeO.refl _)
   | (with_reducible exact LeO.none _)
   | (with_reducible refine LeO.ite ?_ ?_)
   | (with_reducible refine LeO.bind ?_ (fun _ => ?_))
   | exact ih0 _ _ _ _ _ _ _ _ _ _ _ _ _ _ _ _
   | exact q20z.mono _ _
   | exact q19z.mono _ _ _
   | exact q13z.mono _ _ _ _ _
   | exact LeO.none _
   | refine LeO.ite ?_ ?_
   | refine LeO.bind ?_ (fun _ => ?_)
theorem q21z.mono : ∀ a0 a1 a2 a3 a4 a5 a6 a7 a8 a9 a10 a11 k, LeO (q21z.f k a0 a1 a2 a3 a4 a5 a6 a7 a8 a9 a10 a11) (q21z.f (k + 1) a0 a1 a2 a3 a4 a5 a6 a7 a8 a9 a10 a11) := by
 intro a0 a1 a2 a3 a4 a5 a6 a7 a8 a9 a10 a11 k
 have ih0 := q21z.mono_l k
 unfold q21z.f
 repeat' first
   | (with_reducible exact ih0 _ _ _ _ _ _ _ _ _ _ _ _ _ _ _ _)
   | (with_reducible exact q20z.mono _ _)
   | (with_reducible exact q19z.mono _ _ _)
   | (with_reducible exact q13z.mono _ _ _ _ _)
   | (with_reducible exact LeO.refl _)
   | (with_reducible exact LeO.none _)
   | (with_reducible refine LeO.ite ?_ ?_)
   | (with_reducible refine LeO.bind ?_ (fun _ => ?_))
   | exact ih0 _ _ _ _ _ _ _ _ _ _ _ _ _ _ _ _
   | exact q20z.mono _ _
   | exact q19z.mono _ _ _
   | exact q13z.mono _ _ _ _ _
   | exact LeO.none _
   | refine LeO.ite ?_ ?_
   | refine LeO.bind ?_ (fun _ => ?_)
def q21z.T14 : Bool × List (List Nat × List Nat) := (true, [([], []), ([], []), ([1], [1]), ([0, 2], [0, 2]), ([], []), ([4], [4]), ([3, 5, 3], [3, 5]), ([0, 1, 2, 3, 4, 5, 6], []), ([7, 6, 6, 0, 1, 2, 3, 4, 5, 6], [6, 7])])
def q21z.B14 : List Nat := [0, 0, 2, 7, 0, 16, 63, 127, 255]
theorem q21z.tab14 : rtab .any (opsOf Try.f17 14) = q21z.T14 := by kernel_rfl
theorem q21z.bits14 : waitsOk q21z.T14.2 q21z.B14 = true := by kernel_rfl
set_option maxHeartbeats 8000000 in
set_option maxRecDepth 100000 in
theorem q21z.calls (k : Nat) (a0_0 : Int) (a0_1 : Int) (A0_2 : Option Addr) (c0_2 : Nat) (l0_2 : List Int) (A0_3 : Option Addr) (c0_3 : Nat) (l0_3 : List (S53)) (a1_0 : Int) (a1_1 : Int) (A1_2 : Option Addr) (c1_2 : Nat) (l1_2 : List Int) (A1_3 : Option Addr) (c1_3 : Nat) (l1_3 : List Int) (a1_4 : Int) (a1_5 : Int) (a1_6 : Int) (a1_7 : Int) (r1 : Int) (r2 : Int) (r3 : List Int) (r4 : List Int) (r5 : Int) (r6 : Int) (r7 : Int) (r8 : Int) (w : World) (hr0_2 : Kd.C (Kd.int .u32) w A0_2 l0_2.length l0_2) (hc0_2 : l0_2.length ≤ c0_2) (hr0_3 : Kd.C k53 w A0_3 l0_3.length l0_3) (hc0_3 : l0_3.length ≤ c0_3) (hr1_2 : Kd.C (Kd.int .u32) w A1_2 l1_2.length l1_2) (hc1_2 : l1_2.length ≤ c1_2) (hr1_3 : Kd.C (Kd.int .u32) w A1_3 l1_3.length l1_3) (hc1_3 : l1_3.length ≤ c1_3) (h : q21z.f k a0_0 a0_1 l0_2 l0_3 a1_0 a1_1 l1_2 l1_3 a1_4 a1_5 a1_6 a1_7 = some (r1, r2, r3, r4, r5, r6, r7, r8)) :
  Calls Try.prog 17 #[.agg #[.int .i64 a0_0, .int .u32 a0_1, .slice A0_2 l0_2.length c0_2, .slice A0_3 l0_3.length c0_3], .agg #[.int .u32 a1_0, .int .i64 a1_1, .slice A1_2 l1_2.length c1_2, .slice A1_3 l1_3.length c1_3, .int .u32 a1_4, .int .u32 a1_5, .int .i64 a1_6, .int .u32 a1_7]] w fun e w' => ∃ v2_ v3_ : Value, e = .returned (.agg #[.int .u32 r1, .int .i64 r2, v2_, v3_, .int .u32 r5, .int .u32 r6, .int .i64 r7, .int .u32 r8]) ∧ Kd.R (Kd.int .u32) 22 w' w.heap.size (fun k_ => some k_ ≠ (v3_ : Value).ownBlock) v2_ r3 ∧ Kd.R (Kd.int .u32) 22 w' w.heap.size (fun k_ => some k_ ≠ (v2_ : Value).ownBlock) v3_ r4 ∧ Below w.heap.size w w' := by
 have hu26 := Try.underlying26
 have hu30 := Try.underlying30
 have HR0_2 := Aside0.mk hr0_2
 have HC0_2 := Aside0.mk hc0_2
 clear hr0_2 hc0_2
 have HR0_3 := Aside0.mk hr0_3
 have HC0_3 := Aside0.mk hc0_3
 clear hr0_3 hc0_3
 have HR1_2 := Aside0.mk hr1_2
 have HC1_2 := Aside0.mk hc1_2
 clear hr1_2 hc1_2
 have HR1_3 := Aside0.mk hr1_3
 have HC1_3 := Aside0.mk hc1_3
 clear hr1_3 hc1_3
 have HB := Aside0.mk (Below.refl w.heap.size w)
 have H : ((q4z.f a1_0 a1_1 l1_2 l1_3 a1_4 a1_5 a1_6 a1_7).bind fun bt4 => ((q13z.f k a0_0 a0_1 l0_2 l0_3).bind fun t16 => (if t16 = true then (if a0_0 = 1 then (some (bt4.1, bt4.2.1, bt4.2.2.1, bt4.2.2.2.1, a0_1, bt4.2.2.2.2.2.1, bt4.2.2.2.2.2.2.1, bt4.2.2.2.2.2.2.2)) else (if a0_0 = 2 then (some (bt4.1, bt4.2.1, bt4.2.2.1, bt4.2.2.2.1, bt4.2.2.2.2.1, a0_1, bt4.2.2.2.2.2.2.1, bt4.2.2.2.2.2.2.2)) else (if a0_0 = 3 then (some (bt4.1, bt4.2.1, bt4.2.2.1, bt4.2.2.2.1, bt4.2.2.2.2.1, bt4.2.2.2.2.2.1, wrap64 (a0_1), bt4.2.2.2.2.2.2.2)) else (if a0_0 = 4 then (some (bt4.1, bt4.2.1, bt4.2.2.1, bt4.2.2.2.1, bt4.2.2.2.2.1, bt4.2.2.2.2.2.1, bt4.2.2.2.2.2.2.1, a0_1)) else (if a0_0 = 5 then ((some (([] : List Int) : List Int)).bind fun y17 => (if y17.length + l0_2.length < 35184372088832 then ((some (y17 ++ l0_2 : List Int)).bind fun y20 => (if y20.length + bt4.2.2.1.length < 35184372088832 then (some (bt4.1, bt4.2.1, (y20 ++ bt4.2.2.1), bt4.2.2.2.1, bt4.2.2.2.2.1, bt4.2.2.2.2.2.1, bt4.2.2.2.2.2.2.1, bt4.2.2.2.2.2.2.2)) else (none))) else (none))) else (if a0_0 = 6 then (if bt4.2.2.2.1.length + l0_2.length < 35184372088832 then ((q20z.f k (bt4.2.2.2.1 ++ l0_2)).bind fun t29 => (some (bt4.1, bt4.2.1, bt4.2.2.1, t29, bt4.2.2.2.2.1, bt4.2.2.2.2.2.1, bt4.2.2.2.2.2.2.1, bt4.2.2.2.2.2.2.2))) else (none)) else (if a0_0 = 7 then ((q20z.f k l0_2).bind fun t32 => (some (bt4.1, bt4.2.1, bt4.2.2.1, t32, bt4.2.2.2.2.1, bt4.2.2.2.2.2.1, bt4.2.2.2.2.2.2.1, bt4.2.2.2.2.2.2.2))) else (if a0_0 = 8 then (q21z.l0 k ([] : List Int) bt4.2.2.2.1 (bt4.2.2.2.1.length : Int) 0 a0_0 a0_1 l0_2 l0_3 bt4.1 bt4.2.1 bt4.2.2.1 bt4.2.2.2.1 bt4.2.2.2.2.1 bt4.2.2.2.2.2.1 bt4.2.2.2.2.2.2.1 bt4.2.2.2.2.2.2.2) else (some (bt4.1, bt4.2.1, bt4.2.2.1, bt4.2.2.2.1, bt4.2.2.2.2.1, bt4.2.2.2.2.2.1, bt4.2.2.2.2.2.2.1, bt4.2.2.2.2.2.2.2)))))))))) else (some (bt4.1, bt4.2.1, bt4.2.2.1, bt4.2.2.2.1, bt4.2.2.2.2.1, bt4.2.2.2.2.2.1, bt4.2.2.2.2.2.2.1, bt4.2.2.2.2.2.2.2))))) = some (r1, r2, r3, r4, r5, r6, r7, r8) := h
 clear h
 replace H := Option.bind_eq_some_iff.mp H
 obtain ⟨⟨t4, t5, t6, t9, t12, t13, t14, t15⟩, A30, H⟩ := H
 replace H : ((q13z.f k a0_0 a0_1 l0_2 l0_3).bind fun t16 => (if t16 = true then (if a0_0 = 1 then (some (t4, t5, t6, t9, a0_1, t13, t14, t15)) else (if a0_0 = 2 then (some (t4, t5, t6, t9, t12, a0_1, t14, t15)) else (if a0_0 = 3 then (some (t4, t5, t6, t9, t12, t13, wrap64 (a0_1), t15)) else (if a0_0 = 4 then (some (t4, t5, t6, t9, t12, t13, t14, a0_1)) else (if a0_0 = 5 then ((some (([] : List Int) : List Int)).bind fun y17 => (if y17.length + l0_2.length < 35184372088832 then ((some (y17 ++ l0_2 : List Int)).bind fun y20 => (if y20.length + t6.length < 35184372088832 then (some (t4, t5, (y20 ++ t6), t9, t12, t13, t14, t15)) else (none))) else (none))) else (if a0_0 = 6 then (if t9.length + l0_2.length < 35184372088832 then ((q20z.f k (t9 ++ l0_2)).bind fun t29 => (some (t4, t5, t6, t29, t12, t13, t14, t15))) else (none)) else (if a0_0 = 7 then ((q20z.f k l0_2).bind fun t32 => (some (t4, t5, t6, t32, t12, t13, t14, t15))) else (if a0_0 = 8 then (q21z.l0 k ([] : List Int) t9 (t9.length : Int) 0 a0_0 a0_1 l0_2 l0_3 t4 t5 t6 t9 t12 t13 t14 t15) else (some (t4, t5, t6, t9, t12, t13, t14, t15)))))))))) else (some (t4, t5, t6, t9, t12, t13, t14, t15)))) = some (r1, r2, r3, r4, r5, r6, r7, r8) := H
 have A3 := Aside0.mk A30
 clear A30
 replace H := Option.bind_eq_some_iff.mp H
 obtain ⟨t16, A40, H⟩ := H
 replace H : (if t16 = true then (if a0_0 = 1 then (some (t4, t5, t6, t9, a0_1, t13, t14, t15)) else (if a0_0 = 2 then (some (t4, t5, t6, t9, t12, a0_1, t14, t15)) else (if a0_0 = 3 then (some (t4, t5, t6, t9, t12, t13, wrap64 (a0_1), t15)) else (if a0_0 = 4 then (some (t4, t5, t6, t9, t12, t13, t14, a0_1)) else (if a0_0 = 5 then ((some (([] : List Int) : List Int)).bind fun y17 => (if y17.length + l0_2.length < 35184372088832 then ((some (y17 ++ l0_2 : List Int)).bind fun y20 => (if y20.length + t6.length < 35184372088832 then (some (t4, t5, (y20 ++ t6), t9, t12, t13, t14, t15)) else (none))) else (none))) else (if a0_0 = 6 then (if t9.length + l0_2.length < 35184372088832 then ((q20z.f k (t9 ++ l0_2)).bind fun t29 => (some (t4, t5, t6, t29, t12, t13, t14, t15))) else (none)) else (if a0_0 = 7 then ((q20z.f k l0_2).bind fun t32 => (some (t4, t5, t6, t32, t12, t13, t14, t15))) else (if a0_0 = 8 then (q21z.l0 k ([] : List Int) t9 (t9.length : Int) 0 a0_0 a0_1 l0_2 l0_3 t4 t5 t6 t9 t12 t13 t14 t15) else (some (t4, t5, t6, t9, t12, t13, t14, t15)))))))))) else (some (t4, t5, t6, t9, t12, t13, t14, t15))) = some (r1, r2, r3, r4, r5, r6, r7, r8) := H
 have A4 := Aside0.mk A40
 clear A40
 by_cases c5 : t16 = true
 ·
  subst c5
  have H1 : (if a0_0 = 1 then (some (t4, t5, t6, t9, a0_1, t13, t14, t15)) else (if a0_0 = 2 then (some (t4, t5, t6, t9, t12, a0_1, t14, t15)) else (if a0_0 = 3 then (some (t4, t5, t6, t9, t12, t13, wrap64 (a0_1), t15)) else (if a0_0 = 4 then (some (t4, t5, t6, t9, t12, t13, t14, a0_1)) else (if a0_0 = 5 then ((some (([] : List Int) : List Int)).bind fun y17 => (if y17.length + l0_2.length < 35184372088832 then ((some (y17 ++ l0_2 : List Int)).bind fun y20 => (if y20.length + t6.length < 35184372088832 then (some (t4, t5, (y20 ++ t6), t9, t12, t13, t14, t15)) else (none))) else (none))) else (if a0_0 = 6 then (if t9.length + l0_2.length < 35184372088832 then ((q20z.f k (t9 ++ l0_2)).bind fun t29 => (some (t4, t5, t6, t29, t12, t13, t14, t15))) else (none)) else (if a0_0 = 7 then ((q20z.f k l0_2).bind fun t32 => (some (t4, t5, t6, t32, t12, t13, t14, t15))) else (if a0_0 = 8 then (q21z.l0 k ([] : List Int) t9 (t9.length : Int) 0 a0_0 a0_1 l0_2 l0_3 t4 t5 t6 t9 t12 t13 t14 t15) else (some (t4, t5, t6, t9, t12, t13, t14, t15)))))))))) = some (r1, r2, r3, r4, r5, r6, r7, r8) := by rw [if_pos rfl] at H; exact H
  clear H
  have H := H1
  clear H1
  have HH_c6 := Aside0.mk H
  clear H
  go_enter Try.func17, Try.ntmps17
  go_upto_region 4 with (first | ((with_reducible refine gate_dst (N := 2) rfl ?_); refine box_event ?hg (N := 2) ?hd (cs := #[.int .i64 a0_0, .int .u32 a0_1, .slice A0_2 l0_2.length c0_2, .slice A0_3 l0_3.length c0_3]) (t := 26) ?hr ?_; (case hd => rfl); (case hg => rfl); (case hr => first | (go_simp; done) | (go_simp; rfl)); intro gb1 hg w7 hbox hb; have BK1 := Aside0.mk (hbox); have GW1 := gwS hg HB; have GE1 := gwS hg HB; replace HB := hbS HB hb; clear hb hbox hg) | ((with_reducible refine gate_dst (N := 3) rfl ?_); refine box_event ?hg (N := 3) ?hd (cs := #[.int .u32 a1_0, .int .i64 a1_1, .slice A1_2 l1_2.length c1_2, .slice A1_3 l1_3.length c1_3, .int .u32 a1_4, .int .u32 a1_5, .int .i64 a1_6, .int .u32 a1_7]) (t := 30) ?hr ?_; (case hd => rfl); (case hg => rfl); (case hr => first | (go_simp; done) | (go_simp; rfl)); intro gb2 hg w8 hbox hb; have BK2 := Aside0.mk (hbox); have GW2 := gwS hg HB; have GE2 := gwS hg HB; have NB1_2 := nbL hg BK1; have NB2_1 := nbG hg BK1; replace BK1 := bkB BK1 hb; replace HB := hbS HB hb; clear hb hbox hg) | ((with_reducible refine gate_dst (N := 4) rfl ?_); refine box_event ?hg (N := 4) ?hd (cs := #[.int .u32 0, .int .i64 0, .slice none 0 0, .slice none 0 0, .int .u32 0, .int .u32 0, .int .i64 0, .int .u32 0]) (t := 30) ?hr ?_; (case hd => rfl); (case hg => rfl); (case hr => first | (go_simp; done) | (go_simp; rfl)); intro gb3 hg w9 hbox hb; have BK3 := Aside0.mk (hbox); have GW3 := gwS hg HB; have GE3 := gwS hg HB; have NB1_3 := nbL hg BK1; have NB3_1 := nbG hg BK1; have NB2_3 := nbL hg BK2; have NB3_2 := nbG hg BK2; replace BK1 := bkB BK1 hb; replace BK2 := bkB BK2 hb; replace HB := hbS HB hb; clear hb hbox hg; have hnb106 := NB2_1.out; have hnc106 := NB1_2.out; have hnb107 := NB2_3.out; have hnc107 := NB3_2.out; obtain ⟨hcz108_0, hcz108_1, hcz108_2, hcz108_3, hcz108_4, hcz108_5, hcz108_6, hcz108_7, hfz108_0, hfz108_1, hfz108_2, hfz108_3, hfz108_4, hfz108_5, hfz108_6, hfz108_7⟩ := bc8 BK2) | ((with_reducible refine gate_callee (f := 12) rfl ?_); refine goesL_ (some 9) rfl rfl Try.func12 (by kernel_rfl) rfl #[.agg #[.int .u32 a1_0, .int .i64 a1_1, .slice A1_2 l1_2.length c1_2, .slice A1_3 l1_3.length c1_3, .int .u32 a1_4, .int .u32 a1_5, .int .i64 a1_6, .int .u32 a1_7]] rfl (by (try simp only [List.map_toArray, List.map_cons, List.map_nil]); first | done | rfl | (simp only [List.length_drop, List.length_take]; rfl)) ?_; (with_reducible refine (q4z.calls a1_0 a1_1 _ _ l1_2 _ _ l1_3 a1_4 a1_5 a1_6 a1_7 t4 t5 t6 t9 t12 t13 t14 t15 _ ?side1 ?side2 ?side3 ?side4 A3.out).mono ?_); (case side1 => repeat (first | exact (Kd.C_below HR1_2.out HB.out) | (with_reducible refine Kd.C_alloc ?_ _) | (with_reducible refine Kd.C_drewN ?_ _) | (with_reducible refine Kd.C_drew ?_))); (case side2 => exact HC1_2.out); (case side3 => repeat (first | exact (Kd.C_below HR1_3.out HB.out) | (with_reducible refine Kd.C_alloc ?_ _) | (with_reducible refine Kd.C_drewN ?_ _) | (with_reducible refine Kd.C_drew ?_))); (case side4 => exact HC1_3.out); rintro e w13 ⟨v7, v10, rfl, ho0, ho1, hb⟩; refine ⟨_, rfl, ?_⟩; have HO8 := Aside0.mk (Kd.R_lower ho0 (below_size (hbW HB))); have HO11 := Aside0.mk (Kd.R_lower ho1 (below_size (hbW HB))); replace BK1 := bkB BK1 hb; replace BK2 := bkB BK2 hb; replace BK3 := bkB BK3 hb; replace HB := hbS HB hb; (try clear hb); (try clear ho0); (try clear ho1); obtain ⟨hcz14_0, hcz14_1, hcz14_2, hcz14_3, hcz14_4, hcz14_5, hcz14_6, hcz14_7, hfz14_0, hfz14_1, hfz14_2, hfz14_3, hfz14_4, hfz14_5, hfz14_6, hfz14_7⟩ := bc8 BK2; obtain ⟨Ao15, co15, eo15⟩ := Kd.R_slice HO8.out; subst eo15; obtain ⟨Ao16, co16, eo16⟩ := Kd.R_slice HO11.out; subst eo16; have hnb113 := NB1_3.out; have hnc113 := NB3_1.out; obtain ⟨hcz114_0, hcz114_1, hcz114_2, hcz114_3, hfz114_0, hfz114_1, hfz114_2, hfz114_3⟩ := bc4 BK1) | ((with_reducible refine gate_callee (f := 15) rfl ?_); refine goesL_ (some 11) rfl rfl Try.func15 (by kernel_rfl) rfl #[.agg #[.int .i64 a0_0, .int .u32 a0_1, .slice A0_2 l0_2.length c0_2, .slice A0_3 l0_3.length c0_3]] rfl (by (try simp only [List.map_toArray, List.map_cons, List.map_nil]); first | done | rfl | (simp only [List.length_drop, List.length_take]; rfl)) ?_; (with_reducible refine (q13z.calls k a0_0 a0_1 _ _ l0_2 _ _ l0_3 _ _ ?side1 ?side2 ?side3 ?side4 A4.out).mono ?_); (case side1 => exact Kd.C_below HR0_2.out (hbW HB)); (case side2 => exact HC0_2.out); (case side3 => exact Kd.C_below HR0_3.out (hbW HB)); (case side4 => exact HC0_3.out); rintro e w19 ⟨rfl, hb⟩; refine ⟨_, rfl, ?_⟩; replace HO8 := Aside0.mk (Kd.R_below (rW HO8) hb); replace HO11 := Aside0.mk (Kd.R_below (rW HO11) hb); replace BK1 := bvB BK1 hb; replace BK2 := Aside0.mk (blk_below (g := gb2) (o := .cells #[.int .u32 t4, .int .i64 t5, .slice Ao15 t6.length co15, .slice Ao16 t9.length co16, .int .u32 t12, .int .u32 t13, .int .i64 t14, .int .u32 t15] 30 (0, 0)) (bp8 BK2) hb); replace BK3 := bvB BK3 hb; replace HB := hbS HB hb; (try clear hb); obtain ⟨hcz203_0, hcz203_1, hcz203_2, hcz203_3, hfz203_0, hfz203_1, hfz203_2, hfz203_3⟩ := bc4 BK1; obtain ⟨hcz204_0, hcz204_1, hcz204_2, hcz204_3, hcz204_4, hcz204_5, hcz204_6, hcz204_7, hfz204_0, hfz204_1, hfz204_2, hfz204_3, hfz204_4, hfz204_5, hfz204_6, hfz204_7⟩ := bc8 BK2; obtain ⟨hcz205_0, hcz205_1, hcz205_2, hcz205_3, hcz205_4, hcz205_5, hcz205_6, hcz205_7, hfz205_0, hfz205_1, hfz205_2, hfz205_3, hfz205_4, hfz205_5, hfz205_6, hfz205_7⟩ := bc8 BK3))
  have H := HH_c6.out
  clear HH_c6
  by_cases c6 : a0_0 = 1
  ·
   rw [if_pos c6] at H
   have c6b0 : (a0_0 == 1) = true := beq_iff_eq.mpr c6
   have c6b1 : (a0_0 != 1) = false := bne_eq_false_iff_eq.mpr c6
   clear c6
   simp only [Option.some.injEq, Prod.mk.injEq] at H
   obtain ⟨rfl, rfl, rfl, rfl, rfl, rfl, rfl, rfl⟩ := H
   go_wp2
   refine bodyPost_ret (results_cell_row rfl _ _ gb3 30 #[.int .u32 t4, .int .i64 t5, .slice Ao15 t6.length co15, .slice Ao16 t9.length co16, .int .u32 a0_1, .int .u32 t13, .int .i64 t14, .int .u32 t15] (0, 0) _ rfl (bp8 BK3) Try.underlying30 rfl (by kernel_rfl)) rfl ?_
   exact ⟨_, _, by first | rfl | (simp [errW_none, errW_some] <;> rfl) | (simp [*, errW_none, errW_some] <;> rfl), moR (rW HO8), moR (rW HO11), hbW HB⟩
  ·
   rw [if_neg c6] at H
   have c6b0 : (a0_0 == 1) = false := beq_eq_false_iff_ne.mpr c6
   have c6b1 : (a0_0 != 1) = true := bne_iff_ne.mpr c6
   by_cases c23 : a0_0 = 2
   ·
    rw [if_pos c23] at H
    have c23b0 : (a0_0 == 2) = true := beq_iff_eq.mpr c23
    have c23b1 : (a0_0 != 2) = false := bne_eq_false_iff_eq.mpr c23
    clear c23
    simp only [Option.some.injEq, Prod.mk.injEq] at H
    obtain ⟨rfl, rfl, rfl, rfl, rfl, rfl, rfl, rfl⟩ := H
    go_wp2
    refine bodyPost_ret (results_cell_row rfl _ _ gb3 30 #[.int .u32 t4, .int .i64 t5, .slice Ao15 t6.length co15, .slice Ao16 t9.length co16, .int .u32 t12, .int .u32 a0_1, .int .i64 t14, .int .u32 t15] (0, 0) _ rfl (bp8 BK3) Try.underlying30 rfl (by kernel_rfl)) rfl ?_
    exact ⟨_, _, by first | rfl | (simp [errW_none, errW_some] <;> rfl) | (simp [*, errW_none, errW_some] <;> rfl), moR (rW HO8), moR (rW HO11), hbW HB⟩
   ·
    rw [if_neg c23] at H
    have c23b0 : (a0_0 == 2) = false := beq_eq_false_iff_ne.mpr c23
    have c23b1 : (a0_0 != 2) = true := bne_iff_ne.mpr c23
    by_cases c40 : a0_0 = 3
    ·
     rw [if_pos c40] at H
     have c40b0 : (a0_0 == 3) = true := beq_iff_eq.mpr c40
     have c40b1 : (a0_0 != 3) = false := bne_eq_false_iff_eq.mpr c40
     clear c40
     simp only [Option.some.injEq, Prod.mk.injEq] at H
     obtain ⟨rfl, rfl, rfl, rfl, rfl, rfl, rfl, rfl⟩ := H
     go_wp2
     refine bodyPost_ret (results_cell_row rfl _ _ gb3 30 #[.int .u32 t4, .int .i64 t5, .slice Ao15 t6.length co15, .slice Ao16 t9.length co16, .int .u32 t12, .int .u32 t13, .int .i64 (wrap64 (a0_1)), .int .u32 t15] (0, 0) _ rfl (bp8 BK3) Try.underlying30 rfl (by kernel_rfl)) rfl ?_
     exact ⟨_, _, by first | rfl | (simp [errW_none, errW_some] <;> rfl) | (simp [*, errW_none, errW_some] <;> rfl), moR (rW HO8), moR (rW HO11), hbW HB⟩
    ·
     rw [if_neg c40] at H
     have c40b0 : (a0_0 == 3) = false := beq_eq_false_iff_ne.mpr c40
     have c40b1 : (a0_0 != 3) = true := bne_iff_ne.mpr c40
     by_cases c57 : a0_0 = 4
     ·
      rw [if_pos c57] at H
      have c57b0 : (a0_0 == 4) = true := beq_iff_eq.mpr c57
      have c57b1 : (a0_0 != 4) = false := bne_eq_false_iff_eq.mpr c57
      clear c57
      simp only [Option.some.injEq, Prod.mk.injEq] at H
      obtain ⟨rfl, rfl, rfl, rfl, rfl, rfl, rfl, rfl⟩ := H
      go_wp2
      refine bodyPost_ret (results_cell_row rfl _ _ gb3 30 #[.int .u32 t4, .int .i64 t5, .slice Ao15 t6.length co15, .slice Ao16 t9.length co16, .int .u32 t12, .int .u32 t13, .int .i64 t14, .int .u32 a0_1] (0, 0) _ rfl (bp8 BK3) Try.underlying30 rfl (by kernel_rfl)) rfl ?_
      exact ⟨_, _, by first | rfl | (simp [errW_none, errW_some] <;> rfl) | (simp [*, errW_none, errW_some] <;> rfl), moR (rW HO8), moR (rW HO11), hbW HB⟩
     ·
      rw [if_neg c57] at H
      have c57b0 : (a0_0 == 4) = false := beq_eq_false_iff_ne.mpr c57
      have c57b1 : (a0_0 != 4) = true := bne_iff_ne.mpr c57
      by_cases c74 : a0_0 = 5
      ·
       rw [if_pos c74] at H
       have c74b0 : (a0_0 == 5) = true := beq_iff_eq.mpr c74
       have c74b1 : (a0_0 != 5) = false := bne_eq_false_iff_eq.mpr c74
       clear c74
       obtain ⟨y17, hy17⟩ : ∃ y_ : List Int, y_ = (([] : List Int)) := ⟨_, rfl⟩
       replace H : (if y17.length + l0_2.length < 35184372088832 then ((some (y17 ++ l0_2 : List Int)).bind fun y20 => (if y20.length + t6.length < 35184372088832 then (some (t4, t5, (y20 ++ t6), t9, t12, t13, t14, t15)) else (none))) else (none)) = some (r1, r2, r3, r4, r5, r6, r7, r8) := by first | (rw [hy17]; with_reducible exact H) | (have H2_ := (Option.bind_some _ _).symm.trans H; rw [hy17]; with_reducible exact H2_) | (have H2_ := (Option.bind_some _ _).symm.trans H; with_reducible exact H2_) | with_reducible exact H | (rw [hy17]; exact H) | exact H
       have Ny17 := Aside0.mk hy17
       clear hy17
       by_cases c75 : y17.length + l0_2.length < 35184372088832
       ·
        rw [if_pos c75] at H
        have LMc75 := Aside0.mk c75
        clear c75
        obtain ⟨y20, hy20⟩ : ∃ y_ : List Int, y_ = (y17 ++ l0_2) := ⟨_, rfl⟩
        replace H : (if y20.length + t6.length < 35184372088832 then (some (t4, t5, (y20 ++ t6), t9, t12, t13, t14, t15)) else (none)) = some (r1, r2, r3, r4, r5, r6, r7, r8) := by first | (rw [hy20]; with_reducible exact H) | (have H2_ := (Option.bind_some _ _).symm.trans H; rw [hy20]; with_reducible exact H2_) | (have H2_ := (Option.bind_some _ _).symm.trans H; with_reducible exact H2_) | with_reducible exact H | (rw [hy20]; exact H) | exact H
        have Ny20 := Aside0.mk hy20
        clear hy20
        by_cases c76 : y20.length + t6.length < 35184372088832
        ·
         rw [if_pos c76] at H
         have LMc76 := Aside0.mk c76
         clear c76
         obtain ⟨y23, hy23⟩ : ∃ y_ : List Int, y_ = (y20 ++ t6) := ⟨_, rfl⟩
         replace H : (some (t4, t5, y23, t9, t12, t13, t14, t15)) = some (r1, r2, r3, r4, r5, r6, r7, r8) := by first | (rw [hy23]; with_reducible exact H) | (have H2_ := (Option.bind_some _ _).symm.trans H; rw [hy23]; with_reducible exact H2_) | (have H2_ := (Option.bind_some _ _).symm.trans H; with_reducible exact H2_) | with_reducible exact H | (rw [hy23]; exact H) | exact H
         have Ny23 := Aside0.mk hy23
         clear hy23
         simp only [Option.some.injEq, Prod.mk.injEq] at H
         obtain ⟨rfl, rfl, rfl, rfl, rfl, rfl, rfl, rfl⟩ := H
         try go_wp2
         replace HO8 := Aside0.mk (Kd.R_drew HO8.out)
         replace HO11 := Aside0.mk (Kd.R_drew HO11.out)
         replace BK1 := Aside0.mk (blk_drew BK1.out)
         replace BK2 := Aside0.mk (blk_drew BK2.out)
         replace BK3 := Aside0.mk (blk_drew BK3.out)
         replace HB := Aside0.mk (below_drew1 HB.out)
         refine start_ (n := 9) (S := fun w' => w'.cell? ⟨gb1, 0, none⟩ = some (.int .i64 a0_0) ∧ w'.cell? ⟨gb1, 1, none⟩ = some (.int .u32 a0_1) ∧ w'.cell? ⟨gb1, 2, none⟩ = some (.slice A0_2 l0_2.length c0_2) ∧ w'.cell? ⟨gb1, 3, none⟩ = some (.slice A0_3 l0_3.length c0_3) ∧ w'.cell? ⟨gb2, 0, none⟩ = some (.int .u32 t4) ∧ w'.cell? ⟨gb2, 1, none⟩ = some (.int .i64 t5) ∧ w'.cell? ⟨gb2, 2, none⟩ = some (.slice Ao15 t6.length co15) ∧ w'.cell? ⟨gb2, 3, none⟩ = some (.slice Ao16 t9.length co16) ∧ w'.cell? ⟨gb2, 4, none⟩ = some (.int .u32 t12) ∧ w'.cell? ⟨gb2, 5, none⟩ = some (.int .u32 t13) ∧ w'.cell? ⟨gb2, 6, none⟩ = some (.int .i64 t14) ∧ w'.cell? ⟨gb2, 7, none⟩ = some (.int .u32 t15)) (ds := [8]) #[false, false, false, false, false, false, false, false, false] (by kernel_rfl) rfl rfl (bk4 BK1 (bl8 BK2)) (fun hHeld => ?_); refine with_tabW q21z.tab14 q21z.bits14 (fun HT_ HW_ => ?_)
         generalize w19.drew = w91 at HO8 HO11 BK1 BK2 BK3 HB hHeld ⊢
         refine pure_ (i := 1) (N := some 40) (v := ?_) (a' := ?_) #[false, true, false, false, false, false, false, false, false] rfl rfl (any_of HT_.out (by kernel_rfl)) (fun _ _ _ h => h) (Or.inl ⟨by rfl, ?_⟩) ?_ ?_
         rotate_left
         ·
          intro w'
          go_simp
          with_reducible rfl
         rotate_left
         ·
          simp only [Act.put, List.setIfInBounds_toArray, List.set_cons_zero, List.set_cons_succ, i64_w, i32_w, IntKind.wrap_u32]
          rfl
         refine pure_ (i := 4) (N := some 43) (v := ?_) (a' := ?_) #[false, true, false, false, true, false, false, false, false] rfl rfl (any_of HT_.out (by kernel_rfl)) (fun _ _ _ h => h) (Or.inl ⟨by rfl, ?_⟩) ?_ ?_
         rotate_left
         ·
          intro w'
          go_simp
          with_reducible rfl
         rotate_left
         ·
          simp only [Act.put, List.setIfInBounds_toArray, List.set_cons_zero, List.set_cons_succ, i64_w, i32_w, IntKind.wrap_u32]
          rfl
         refine take_ (i := 2) (N := some 41) (v := ?_) (a' := ?_) #[false, true, true, false, true, false, false, false, false] rfl rfl (take_ofW HT_.out HW_.out (by kernel_rfl)) (fun _ _ _ h => h) (Or.inl ⟨by rfl, ?_⟩) hHeld ?_ ?_
         rotate_left
         ·
          rintro w' ⟨s0, s1, s2, s3, s4, s5, s6, s7, s8, s9, s10, s11⟩
          go_simp
          with_reducible rfl
         rotate_left
         ·
          simp only [Act.put, List.setIfInBounds_toArray, List.set_cons_zero, List.set_cons_succ, i64_w, i32_w, IntKind.wrap_u32]
          rfl
         refine take_ (i := 5) (N := some 44) (v := ?_) (a' := ?_) #[false, true, true, false, true, true, false, false, false] rfl rfl (take_ofW HT_.out HW_.out (by kernel_rfl)) (fun _ _ _ h => h) (Or.inl ⟨by rfl, ?_⟩) hHeld ?_ ?_
         rotate_left
         ·
          rintro w' ⟨s0, s1, s2, s3, s4, s5, s6, s7, s8, s9, s10, s11⟩
          go_simp
          with_reducible rfl
         rotate_left
         ·
          simp only [Act.put, List.setIfInBounds_toArray, List.set_cons_zero, List.set_cons_succ, i64_w, i32_w, IntKind.wrap_u32]
          rfl
         refine one_ (i := 0) (N := some 39) #[true, true, true, false, true, true, false, false, false] rfl rfl (one_of HT_.out (by kernel_rfl)) (by decide) (fun K hK => ?_)
         refine Kd.R_lit_step (Kd.int .u32) _ 22 ?hg (N := 39) ?hd (xs := ([] : List Int)) (inner := []) (ok := fun _ => True) (okp := fun _ => True) ?hr ?hp (fun _ hk => hk) trivial (Below.refl _ _) (Nat.le_refl _) (by simp) ?_; (case hd => rfl); (case hg => rfl); (case hr => first | (go_simp; done) | (go_simp; rfl)); (case hp => exact (Reps.none _ _))
         intro v18 w92 ho93 hb hg_ hnew_
         clear hg_ hnew_
         (first | rw [← Ny17.out] at ho93 | (simp only [Int.reduceToNat] at ho93; rw [← Ny17.out] at ho93))
         have HO19 := Aside0.mk (Kd.R_lower (Kd.R_new' (Kd.R_new' ho93 (Kd.R_lt (rW HO8))) (Kd.R_lt (rW HO11))) (below_size (hbW HB)))
         replace HO8 := Aside0.mk (Kd.R_elder' (rW HO8) (Kd.R_base ho93) hb)
         replace HO11 := Aside0.mk (Kd.R_elder' (rW HO11) (Kd.R_base ho93) hb)
         replace BK1 := bkB BK1 hb
         replace BK2 := bkB BK2 hb
         replace BK3 := bkB BK3 hb
         replace HB := hbS HB hb
         clear hb ho93
         refine hK.out _ _ (bk4 BK1 (bl8 BK2)) (fun hHeld => ?_)
         clear hK K
         refine norm_ (a' := ?_) ?_ ?_
         rotate_left
         ·
          show Act.put _ (some 39) _ = _
          simp only [Act.put, List.setIfInBounds_toArray, List.set_cons_zero, List.set_cons_succ, i64_w, i32_w, IntKind.wrap_u32]
          rfl
         refine one_ (i := 3) (N := some 42) #[true, true, true, true, true, true, false, false, false] rfl rfl (one_of HT_.out (by kernel_rfl)) (by decide) (fun K hK => ?_)
         refine Kd.R_append_rows_step (Kd.int .u32) (w0 := w) w.heap.size (by rfl) (.tmp 39) (.tmp 41) 23 22 (.int .u32 0) 4 rfl Try.underlying23 info22 rfl (by decide) (by omega) v18 y17 l0_2 _ _ _ (fun k_ => some k_ ≠ (.slice Ao15 t6.length co15 : Value).ownBlock ∧ some k_ ≠ (.slice Ao16 t9.length co16 : Value).ownBlock) (fun _ => False) rfl rfl ?aO ?aR (fun _ _ h => h) (fun _ h => h.elim) ?aF ?aB ?aS ?aL ?_
         (case aR => repeat (first | exact (Kd.C_below HR0_2.out HB.out) | (with_reducible refine Kd.C_alloc ?_ _) | (with_reducible refine Kd.C_drewN ?_ _) | (with_reducible refine Kd.C_drew ?_)))
         (case aB => exact (hbW HB))
         (case aF => exact (fun k_ hk => ⟨Kd.fresh' (Kd.R_lt (rW HO8)) k_ hk, Kd.fresh' (Kd.R_lt (rW HO11)) k_ hk⟩))
         (case aO => exact (by (with_reducible repeat (first | apply Kd.R_alloc | apply Kd.R_drewN | apply Kd.R_drew)); exact Kd.R_mono HO19.out (fun _ hk => ⟨hk.1.2, hk.2⟩)))
         (case aS => exact (below_size (hbW HB)))
         (case aL => have := LMc75.out; omega)
         intro v21 w94 ho hb hg hat
         rw [← Ny20.out] at ho
         have n0_ := Aside0.mk (blk_grown (g := gb1) (o := .cells #[.int .i64 a0_0, .int .u32 a0_1, .slice A0_2 l0_2.length c0_2, .slice A0_3 l0_3.length c0_3] 26 (0, 0)) (bkW BK1) hg (Kd.R_ne HO19.out BK1.out (by decide)))
         have n1_ := Aside0.mk (blk_grown (g := gb2) (o := .cells #[.int .u32 t4, .int .i64 t5, .slice Ao15 t6.length co15, .slice Ao16 t9.length co16, .int .u32 t12, .int .u32 t13, .int .i64 t14, .int .u32 t15] 30 (0, 0)) (bkW BK2) hg (Kd.R_ne HO19.out BK2.out (by decide)))
         have n2_ := Aside0.mk (blk_grown (g := gb3) (o := .cells #[.int .u32 0, .int .i64 0, .slice none 0 0, .slice none 0 0, .int .u32 0, .int .u32 0, .int .i64 0, .int .u32 0] 30 (0, 0)) (bkW BK3) hg (Kd.R_ne HO19.out BK3.out (by decide)))
         have n3_ := Aside0.mk (Kd.R_after (ok := (fun k_ => some k_ ≠ (.slice Ao16 t9.length co16 : Value).ownBlock)) (rW HO8) hg hat)
         have n4_ := Aside0.mk (Kd.R_after (ok := (fun k_ => some k_ ≠ (.slice Ao15 t6.length co15 : Value).ownBlock)) (rW HO11) hg hat)
         have n5_ := Aside0.mk (hb)
         have n6_ := Aside0.mk (ho)
         clear BK1 BK2 BK3 HO8 HO11 HB HO19
         have BK1 := n0_
         have BK2 := n1_
         have BK3 := n2_
         have HO8 := n3_
         have HO11 := n4_
         have HB := n5_
         have HO22 := n6_
         clear n0_ n1_ n2_ n3_ n4_ n5_ n6_ ho hb hg hat
         refine hK.out _ _ (bk4 BK1 (bl8 BK2)) (fun hHeld => ?_)
         clear hK K
         refine norm_ (a' := ?_) ?_ ?_
         rotate_left
         ·
          show Act.put _ (some 42) _ = _
          simp only [Act.put, List.setIfInBounds_toArray, List.set_cons_zero, List.set_cons_succ, i64_w, i32_w, IntKind.wrap_u32]
          rfl
         refine one_ (i := 6) (N := some 45) #[true, true, true, true, true, true, true, false, false] rfl rfl (one_of HT_.out (by kernel_rfl)) (by decide) (fun K hK => ?_)
         refine Kd.R_append_rows_step (Kd.int .u32) (w0 := w) w.heap.size (by rfl) (.tmp 42) (.tmp 44) 23 22 (.int .u32 0) 4 rfl Try.underlying23 info22 rfl (by decide) (by omega) v21 y20 t6 _ _ _ (fun k_ => some k_ ≠ (.slice Ao15 t6.length co15 : Value).ownBlock ∧ some k_ ≠ (.slice Ao16 t9.length co16 : Value).ownBlock) (fun _ => False) rfl rfl ?aO ?aR (fun _ _ h => h) (fun _ h => h.elim) ?aF ?aB ?aS ?aL ?_
         (case aR => repeat (first | exact (Kd.R_reads' HO8.out).2.2 | (with_reducible refine Kd.C_alloc ?_ _) | (with_reducible refine Kd.C_drewN ?_ _) | (with_reducible refine Kd.C_drew ?_)))
         (case aB => exact (hbW HB))
         (case aF => exact (fun k_ hk => ⟨Kd.fresh' (Kd.R_lt (rW HO8)) k_ hk, Kd.fresh' (Kd.R_lt (rW HO11)) k_ hk⟩))
         (case aO => exact (rW HO22))
         (case aS => exact (below_size (hbW HB)))
         (case aL => have := LMc76.out; omega)
         intro v24 w95 ho hb hg hat
         rw [← Ny23.out] at ho
         have n0_ := Aside0.mk (blk_grown (g := gb1) (o := .cells #[.int .i64 a0_0, .int .u32 a0_1, .slice A0_2 l0_2.length c0_2, .slice A0_3 l0_3.length c0_3] 26 (0, 0)) (bkW BK1) hg (Kd.R_ne HO22.out BK1.out (by decide)))
         have n1_ := Aside0.mk (blk_grown (g := gb2) (o := .cells #[.int .u32 t4, .int .i64 t5, .slice Ao15 t6.length co15, .slice Ao16 t9.length co16, .int .u32 t12, .int .u32 t13, .int .i64 t14, .int .u32 t15] 30 (0, 0)) (bkW BK2) hg (Kd.R_ne HO22.out BK2.out (by decide)))
         have n2_ := Aside0.mk (blk_grown (g := gb3) (o := .cells #[.int .u32 0, .int .i64 0, .slice none 0 0, .slice none 0 0, .int .u32 0, .int .u32 0, .int .i64 0, .int .u32 0] 30 (0, 0)) (bkW BK3) hg (Kd.R_ne HO22.out BK3.out (by decide)))
         have n3_ := Aside0.mk (Kd.R_after (ok := (fun k_ => some k_ ≠ (.slice Ao16 t9.length co16 : Value).ownBlock)) (rW HO8) hg hat)
         have n4_ := Aside0.mk (Kd.R_after (ok := (fun k_ => some k_ ≠ (.slice Ao15 t6.length co15 : Value).ownBlock)) (rW HO11) hg hat)
         have n5_ := Aside0.mk (hb)
         have n6_ := Aside0.mk (ho)
         clear BK1 BK2 BK3 HO8 HO11 HB HO22
         have BK1 := n0_
         have BK2 := n1_
         have BK3 := n2_
         have HO8 := n3_
         have HO11 := n4_
         have HB := n5_
         have HO25 := n6_
         clear n0_ n1_ n2_ n3_ n4_ n5_ n6_ ho hb hg hat
         obtain ⟨Ao96, co96, eo96⟩ := Kd.R_slice HO25.out
         (first | subst eo96 | (injection eo96 with f1_ f2_ f3_; have f4_ := f1_.symm; have f5_ := f3_.symm; clear f1_ f2_ f3_; subst f4_; subst f5_))
         refine hK.out _ _ (bk4 BK1 (bl8 BK2)) (fun hHeld => ?_)
         clear hK K
         refine norm_ (a' := ?_) ?_ ?_
         rotate_left
         ·
          show Act.put _ (some 45) _ = _
          simp only [Act.put, List.setIfInBounds_toArray, List.set_cons_zero, List.set_cons_succ, i64_w, i32_w, IntKind.wrap_u32]
          rfl
         refine pure_ (i := 7) (N := some 46) (v := ?_) (a' := ?_) #[true, true, true, true, true, true, true, true, false] rfl rfl (any_of HT_.out (by kernel_rfl)) (fun _ _ _ h => h) (Or.inl ⟨by rfl, ?_⟩) ?_ ?_
         rotate_left
         ·
          intro w'
          go_simp
          with_reducible rfl
         rotate_left
         ·
          simp only [Act.put, List.setIfInBounds_toArray, List.set_cons_zero, List.set_cons_succ, i64_w, i32_w, IntKind.wrap_u32]
          rfl
         refine last_ (i := 8) (N := none) #[true, true, true, true, true, true, true, true, true] rfl rfl (one_of HT_.out (by kernel_rfl)) (by decide) (fun K hK => ?_)
         have hs97 : w95.cell? ⟨gb2, 2, none⟩ = some (.slice Ao15 t6.length co15) := (blk_cell BK2.out 2).trans rfl
         have hfs97 := blk_frozen BK2.out 2
         have hns97_0 := NB1_2.out
         have hns97_2 := NB3_2.out
         have hms97_0 := NB2_1.out
         have hms97_2 := NB2_3.out
         refine skip_ (w1 := ?_) (by rfl) rfl ?_ ?_
         rotate_left
         ·
          go_simp
          rfl
         refine hK.out _ _ ?_
         clear hK K
         refine done_ (done_of HT_.out (by kernel_rfl)) ?_
         obtain ⟨hcz98_0, hcz98_1, hcz98_2, hcz98_3, hcz98_4, hcz98_5, hcz98_6, hcz98_7, hfz98_0, hfz98_1, hfz98_2, hfz98_3, hfz98_4, hfz98_5, hfz98_6, hfz98_7⟩ := bc8 BK2
         obtain ⟨hcz99_0, hcz99_1, hcz99_2, hcz99_3, hcz99_4, hcz99_5, hcz99_6, hcz99_7, hfz99_0, hfz99_1, hfz99_2, hfz99_3, hfz99_4, hfz99_5, hfz99_6, hfz99_7⟩ := bc8 BK3
         try go_wp2
         refine bodyPost_ret (results_cell_row rfl _ _ gb3 30 #[.int .u32 t4, .int .i64 t5, .slice Ao96 y23.length co96, .slice Ao16 t9.length co16, .int .u32 t12, .int .u32 t13, .int .i64 t14, .int .u32 t15] (0, 0) _ rfl (bp8 BK3) Try.underlying30 rfl (by kernel_rfl)) rfl ?_
         exact ⟨_, _, by first | rfl | (simp [errW_none, errW_some] <;> rfl) | (simp [*, errW_none, errW_some] <;> rfl), moR (rW HO25), moR (rW HO11), hbW HB⟩
        ·
         rw [if_neg c76] at H
         exact absurd H (by simp)
       ·
        rw [if_neg c75] at H
        exact absurd H (by simp)
      ·
       rw [if_neg c74] at H
       have c74b0 : (a0_0 == 5) = false := beq_eq_false_iff_ne.mpr c74
       have c74b1 : (a0_0 != 5) = true := bne_iff_ne.mpr c74
       by_cases c100 : a0_0 = 6
       ·
        rw [if_pos c100] at H
        have c100b0 : (a0_0 == 6) = true := beq_iff_eq.mpr c100
        have c100b1 : (a0_0 != 6) = false := bne_eq_false_iff_eq.mpr c100
        clear c100
        by_cases c101 : t9.length + l0_2.length < 35184372088832
        ·
         rw [if_pos c101] at H
         have LMc101 := Aside0.mk c101
         clear c101
         obtain ⟨y26, hy26⟩ : ∃ y_ : List Int, y_ = (t9 ++ l0_2) := ⟨_, rfl⟩
         replace H : ((q20z.f k y26).bind fun t29 => (some (t4, t5, t6, t29, t12, t13, t14, t15))) = some (r1, r2, r3, r4, r5, r6, r7, r8) := by first | (rw [hy26]; with_reducible exact H) | (have H2_ := (Option.bind_some _ _).symm.trans H; rw [hy26]; with_reducible exact H2_) | (have H2_ := (Option.bind_some _ _).symm.trans H; with_reducible exact H2_) | with_reducible exact H | (rw [hy26]; exact H) | exact H
         have Ny26 := Aside0.mk hy26
         clear hy26
         replace H := Option.bind_eq_some_iff.mp H
         obtain ⟨t29, A1020, H⟩ := H
         replace H : (some (t4, t5, t6, t29, t12, t13, t14, t15)) = some (r1, r2, r3, r4, r5, r6, r7, r8) := H
         have A102 := Aside0.mk A1020
         clear A1020
         simp only [Option.some.injEq, Prod.mk.injEq] at H
         obtain ⟨rfl, rfl, rfl, rfl, rfl, rfl, rfl, rfl⟩ := H
         go_wp2_with (first | ((with_reducible refine gate_builtin (b := .append) (xs := #[.tmp 50, .tmp 52]) rfl ?_); at_builtin; refine Kd.R_append_rows (Kd.int .u32) (w0 := w) w.heap.size rfl (.tmp 50) (.tmp 52) 23 22 (.int .u32 0) 4 rfl Try.underlying23 info22 rfl (by decide) (by omega) (.slice Ao16 t9.length co16) t9 l0_2 _ _ _ (fun k_ => some k_ ≠ (.slice Ao15 t6.length co15 : Value).ownBlock) (fun _ => False) rfl rfl ?aO ?aR (fun _ _ h => h) (fun _ h => h.elim) ?aF ?aB ?aS ?aL ?_; (case aR => repeat (first | exact (Kd.C_below HR0_2.out HB.out) | (with_reducible refine Kd.C_alloc ?_ _) | (with_reducible refine Kd.C_drewN ?_ _) | (with_reducible refine Kd.C_drew ?_))); (case aB => exact (hbW HB)); (case aF => exact (fun k_ hk => Kd.fresh' (Kd.R_lt (rW HO8)) k_ hk)); (case aO => exact (rW HO11)); (case aS => exact (below_size (hbW HB))); (case aL => have := LMc101.out; omega); intro v27 w118 ho hb hg hat; rw [← Ny26.out] at ho; have n0_ := Aside0.mk (blk_grown (g := gb1) (o := .cells #[.int .i64 a0_0, .int .u32 a0_1, .slice A0_2 l0_2.length c0_2, .slice A0_3 l0_3.length c0_3] 26 (0, 0)) (bkW BK1) hg (Kd.R_ne HO11.out BK1.out (by decide))); have n1_ := Aside0.mk (blk_grown (g := gb2) (o := .cells #[.int .u32 t4, .int .i64 t5, .slice Ao15 t6.length co15, .slice Ao16 t9.length co16, .int .u32 t12, .int .u32 t13, .int .i64 t14, .int .u32 t15] 30 (0, 0)) (bkW BK2) hg (Kd.R_ne HO11.out BK2.out (by decide))); have n2_ := Aside0.mk (blk_grown (g := gb3) (o := .cells #[.int .u32 0, .int .i64 0, .slice none 0 0, .slice none 0 0, .int .u32 0, .int .u32 0, .int .i64 0, .int .u32 0] 30 (0, 0)) (bkW BK3) hg (Kd.R_ne HO11.out BK3.out (by decide))); have n3_ := Aside0.mk (Kd.R_after (ok := (fun _ => True)) (by (with_reducible repeat (first | apply Kd.R_alloc | apply Kd.R_drewN | apply Kd.R_drew)); exact Kd.R_mono HO8.out (fun _ hk => ⟨trivial, hk⟩)) hg hat); have n4_ := Aside0.mk (hb); have n5_ := Aside0.mk (ho); clear BK1; clear BK2; clear BK3; clear HO8; clear HB; clear HO11; have BK1 := n0_; have BK2 := n1_; have BK3 := n2_; have HO8 := n3_; have HB := n4_; have HO28 := n5_; clear n0_ n1_ n2_ n3_ n4_ n5_; clear ho hb hg hat; obtain ⟨Ao119, co119, eo119⟩ := Kd.R_slice HO28.out; subst eo119) | ((with_reducible refine gate_callee (f := 37) rfl ?_); refine goesL_ (some 54) rfl rfl Try.func37 (by kernel_rfl) rfl #[.slice Ao119 y26.length co119] rfl (by (try simp only [List.map_toArray, List.map_cons, List.map_nil]); first | done | rfl | (simp only [List.length_drop, List.length_take]; rfl)) ?_; (with_reducible refine (q20z.calls k _ _ y26 t29 _ ?side1 ?side2 A102.out).mono ?_); (case side1 => repeat (first | exact (Kd.R_reads' HO28.out).2.2 | (with_reducible refine Kd.C_alloc ?_ _) | (with_reducible refine Kd.C_drewN ?_ _) | (with_reducible refine Kd.C_drew ?_))); (case side2 => exact (Kd.R_reads' HO28.out).2.1); rintro e w120 ⟨v30, rfl, ho0, hb⟩; refine ⟨_, rfl, ?_⟩; have HO31 := Aside0.mk (Kd.R_lower (Kd.R_new' (Kd.R_new' ho0 (Kd.R_lt (rW HO8))) (Kd.R_lt (rW HO28))) (below_size (hbW HB))); replace HO8 := Aside0.mk (Kd.R_elder' (rW HO8) (Kd.R_base ho0) hb); replace HO28 := Aside0.mk (Kd.R_elder' (rW HO28) (Kd.R_base ho0) hb); replace BK1 := bkB BK1 hb; replace BK2 := bkB BK2 hb; replace BK3 := bkB BK3 hb; replace HB := hbS HB hb; (try clear hb); (try clear hk); (try clear ho0); obtain ⟨Ao121, co121, eo121⟩ := Kd.R_slice HO31.out; subst eo121; obtain ⟨hcz122_0, hcz122_1, hcz122_2, hcz122_3, hcz122_4, hcz122_5, hcz122_6, hcz122_7, hfz122_0, hfz122_1, hfz122_2, hfz122_3, hfz122_4, hfz122_5, hfz122_6, hfz122_7⟩ := bc8 BK2; obtain ⟨hcz123_0, hcz123_1, hcz123_2, hcz123_3, hcz123_4, hcz123_5, hcz123_6, hcz123_7, hfz123_0, hfz123_1, hfz123_2, hfz123_3, hfz123_4, hfz123_5, hfz123_6, hfz123_7⟩ := bc8 BK3))
         refine bodyPost_ret (results_cell_row rfl _ _ gb3 30 #[.int .u32 t4, .int .i64 t5, .slice Ao15 t6.length co15, .slice Ao121 t29.length co121, .int .u32 t12, .int .u32 t13, .int .i64 t14, .int .u32 t15] (0, 0) _ rfl (bp8 BK3) Try.underlying30 rfl (by kernel_rfl)) rfl ?_
         exact ⟨_, _, by first | rfl | (simp [errW_none, errW_some] <;> rfl) | (simp [*, errW_none, errW_some] <;> rfl), moR (rW HO8), moR (rW HO31), hbW HB⟩
        ·
         rw [if_neg c101] at H
         exact absurd H (by simp)
       ·
        rw [if_neg c100] at H
        have c100b0 : (a0_0 == 6) = false := beq_eq_false_iff_ne.mpr c100
        have c100b1 : (a0_0 != 6) = true := bne_iff_ne.mpr c100
        by_cases c124 : a0_0 = 7
        ·
         rw [if_pos c124] at H
         have c124b0 : (a0_0 == 7) = true := beq_iff_eq.mpr c124
         have c124b1 : (a0_0 != 7) = false := bne_eq_false_iff_eq.mpr c124
         clear c124
         replace H := Option.bind_eq_some_iff.mp H
         obtain ⟨t32, A1250, H⟩ := H
         replace H : (some (t4, t5, t6, t32, t12, t13, t14, t15)) = some (r1, r2, r3, r4, r5, r6, r7, r8) := H
         have A125 := Aside0.mk A1250
         clear A1250
         simp only [Option.some.injEq, Prod.mk.injEq] at H
         obtain ⟨rfl, rfl, rfl, rfl, rfl, rfl, rfl, rfl⟩ := H
         go_wp2_with (first | ((with_reducible refine gate_callee (f := 37) rfl ?_); refine goesL_ (some 60) rfl rfl Try.func37 (by kernel_rfl) rfl #[.slice A0_2 l0_2.length c0_2] rfl (by (try simp only [List.map_toArray, List.map_cons, List.map_nil]); first | done | rfl | (simp only [List.length_drop, List.length_take]; rfl)) ?_; (with_reducible refine (q20z.calls k _ _ l0_2 t32 _ ?side1 ?side2 A125.out).mono ?_); (case side1 => repeat (first | exact (Kd.C_below HR0_2.out HB.out) | (with_reducible refine Kd.C_alloc ?_ _) | (with_reducible refine Kd.C_drewN ?_ _) | (with_reducible refine Kd.C_drew ?_))); (case side2 => exact HC0_2.out); rintro e w140 ⟨v33, rfl, ho0, hb⟩; refine ⟨_, rfl, ?_⟩; have HO34 := Aside0.mk (Kd.R_lower (Kd.R_new' (Kd.R_new' ho0 (Kd.R_lt (rW HO8))) (Kd.R_lt (rW HO11))) (below_size (hbW HB))); replace HO8 := Aside0.mk (Kd.R_elder' (rW HO8) (Kd.R_base ho0) hb); replace HO11 := Aside0.mk (Kd.R_elder' (rW HO11) (Kd.R_base ho0) hb); replace BK1 := bkB BK1 hb; replace BK2 := bkB BK2 hb; replace BK3 := bkB BK3 hb; replace HB := hbS HB hb; (try clear hb); (try clear ho0); obtain ⟨Ao141, co141, eo141⟩ := Kd.R_slice HO34.out; subst eo141; obtain ⟨hcz142_0, hcz142_1, hcz142_2, hcz142_3, hcz142_4, hcz142_5, hcz142_6, hcz142_7, hfz142_0, hfz142_1, hfz142_2, hfz142_3, hfz142_4, hfz142_5, hfz142_6, hfz142_7⟩ := bc8 BK2; obtain ⟨hcz143_0, hcz143_1, hcz143_2, hcz143_3, hcz143_4, hcz143_5, hcz143_6, hcz143_7, hfz143_0, hfz143_1, hfz143_2, hfz143_3, hfz143_4, hfz143_5, hfz143_6, hfz143_7⟩ := bc8 BK3))
         refine bodyPost_ret (results_cell_row rfl _ _ gb3 30 #[.int .u32 t4, .int .i64 t5, .slice Ao15 t6.length co15, .slice Ao141 t32.length co141, .int .u32 t12, .int .u32 t13, .int .i64 t14, .int .u32 t15] (0, 0) _ rfl (bp8 BK3) Try.underlying30 rfl (by kernel_rfl)) rfl ?_
         exact ⟨_, _, by first | rfl | (simp [errW_none, errW_some] <;> rfl) | (simp [*, errW_none, errW_some] <;> rfl), moR (rW HO8), moR (rW HO34), hbW HB⟩
        ·
         rw [if_neg c124] at H
         have c124b0 : (a0_0 == 7) = false := beq_eq_false_iff_ne.mpr c124
         have c124b1 : (a0_0 != 7) = true := bne_iff_ne.mpr c124
         by_cases c144 : a0_0 = 8
         ·
          rw [if_pos c144] at H
          have c144b0 : (a0_0 == 8) = true := beq_iff_eq.mpr c144
          have c144b1 : (a0_0 != 8) = false := bne_eq_false_iff_eq.mpr c144
          clear c144
          have H' := Aside0.mk H
          clear H
          go_wp2
          go_loopg [5, 67] k (fun kq v5 v67 w' => ∃ (x5_1 : List Int) (x67_1 : Int), v67 = .int .i64 x67_1 ∧ Aside0 (q21z.l0 kq x5_1 t9 (t9.length : Int) x67_1 a0_0 a0_1 l0_2 l0_3 t4 t5 t6 t9 t12 t13 t14 t15 = some (r1, r2, r3, r4, r5, r6, r7, r8)) ∧ Aside0 (kq ≤ k) ∧ Aside0 (Kd.R (Kd.int .u32) 22 w' w.heap.size (fun k_ => some k_ ≠ ((.slice Ao16 t9.length co16) : Value).ownBlock ∧ some k_ ≠ ((.slice Ao15 t6.length co15) : Value).ownBlock ∧ some k_ ≠ ((.slice Ao16 t9.length co16) : Value).ownBlock) v5 x5_1) ∧ Aside0 (Kd.R (Kd.int .u32) 22 w' w.heap.size (fun k_ => some k_ ≠ (v5 : Value).ownBlock ∧ some k_ ≠ ((.slice Ao15 t6.length co15) : Value).ownBlock) (.slice Ao16 t9.length co16) t9) ∧ Aside0 (Kd.R (Kd.int .u32) 22 w' w.heap.size (fun k_ => some k_ ≠ (v5 : Value).ownBlock ∧ some k_ ≠ ((.slice Ao16 t9.length co16) : Value).ownBlock ∧ some k_ ≠ ((.slice Ao16 t9.length co16) : Value).ownBlock) (.slice Ao15 t6.length co15) t6) ∧ Aside0 (Kd.R (Kd.int .u32) 22 w' w.heap.size (fun k_ => some k_ ≠ (v5 : Value).ownBlock ∧ some k_ ≠ ((.slice Ao15 t6.length co15) : Value).ownBlock) (.slice Ao16 t9.length co16) t9) ∧ Aside0 (w'.heap[gb1]? = some (.cells #[.int .i64 a0_0, .int .u32 a0_1, (.slice A0_2 l0_2.length c0_2), (.slice A0_3 l0_3.length c0_3)] 26 (0, 0))) ∧ Aside0 (w'.heap[gb2]? = some (.cells #[.int .u32 t4, .int .i64 t5, (.slice Ao15 t6.length co15), (.slice Ao16 t9.length co16), .int .u32 t12, .int .u32 t13, .int .i64 t14, .int .u32 t15] 30 (0, 0))) ∧ Aside0 (w'.heap[gb3]? = some (.cells #[.int .u32 0, .int .i64 0, (.slice none 0 0), (.slice none 0 0), .int .u32 0, .int .u32 0, .int .i64 0, .int .u32 0] 30 (0, 0))) ∧ Aside0 (Below w.heap.size w w'))
          case atStart => exact ⟨(([] : List Int)), (0), (by first | rfl | (simp; done) | (simp [*]; done)), H', ⟨Nat.le_refl _⟩, ⟨by first | exact Kd.R_nil _ _ _ _ _ | exact Kd.N_nil _ _ _ _ _ | exact Kd.V_nil _ _ _ _ _ | exact Kd.Q_nil _ _ _ _ _ | exact Kd.S_nil _ _ _ _ _⟩, ⟨by (with_reducible repeat (first | apply Kd.R_alloc | apply Kd.R_drewN | apply Kd.R_drew)); exact Kd.R_mono HO11.out (fun _ hk => ⟨(by simp [Value.ownBlock]), hk⟩)⟩, ⟨by (with_reducible repeat (first | apply Kd.R_alloc | apply Kd.R_drewN | apply Kd.R_drew)); exact Kd.R_mono HO8.out (fun _ hk => ⟨(by simp [Value.ownBlock]), ⟨hk, hk⟩⟩)⟩, ⟨by (with_reducible repeat (first | apply Kd.R_alloc | apply Kd.R_drewN | apply Kd.R_drew)); exact Kd.R_mono HO11.out (fun _ hk => ⟨(by simp [Value.ownBlock]), hk⟩)⟩, ⟨by (with_reducible repeat (first | refine blk_drewN ?_ _ | refine blk_drew ?_ | refine blk_alloc ?_ _)); exact BK1.out⟩, ⟨by (with_reducible repeat (first | refine blk_drewN ?_ _ | refine blk_drew ?_ | refine blk_alloc ?_ _)); exact BK2.out⟩, ⟨by (with_reducible repeat (first | refine blk_drewN ?_ _ | refine blk_drew ?_ | refine blk_alloc ?_ _)); exact BK3.out⟩, ⟨hbW HB⟩⟩
          case round =>
           clear H'
           try clear c1
           try clear c2
           try clear p2
           try clear c3
           try clear c4
           try clear c5
           try clear c6
           try clear c6b0
           try clear c6b1
           try clear p6
           try clear c7
           try clear c8
           try clear c10
           try clear c11
           try clear c12
           try clear c13
           try clear c14
           try clear c15
           try clear c17
           try clear c23
           try clear c23b0
           try clear c23b1
           try clear c27
           try clear c28
           try clear c34
           try clear c37
           try clear c40
           try clear c40b0
           try clear c40b1
           try clear c44
           try clear c45
           try clear c51
           try clear c57
           try clear c57b0
           try clear c57b1
           try clear c61
           try clear c62
           try clear p64
           try clear c68
           try clear c74
           try clear c74b0
           try clear c74b1
           try clear c75
           try clear c76
           try clear c80
           try clear c81
           try clear c87
           try clear c100
           try clear c100b0
           try clear c100b1
           try clear c101
           try clear c106
           try clear c107
           try clear c113
           try clear c124
           try clear c124b0
           try clear c124b1
           try clear c129
           try clear c130
           try clear c136
           try clear c144
           try clear c144b0
           try clear c144b1
           try clear c148
           try clear c149
           try clear c155
           try clear hcz108_0 hcz108_1 hcz108_2 hcz108_3 hcz108_4 hcz108_5 hcz108_6 hcz108_7
           try clear hcz110_0 hcz110_1 hcz110_2 hcz110_3 hcz110_4 hcz110_5 hcz110_6 hcz110_7
           try clear hcz114_0 hcz114_1 hcz114_2 hcz114_3
           try clear hcz116_0 hcz116_1 hcz116_2 hcz116_3
           try clear hcz117_0 hcz117_1 hcz117_2 hcz117_3 hcz117_4 hcz117_5 hcz117_6 hcz117_7
           try clear hcz122_0 hcz122_1 hcz122_2 hcz122_3 hcz122_4 hcz122_5 hcz122_6 hcz122_7
           try clear hcz123_0 hcz123_1 hcz123_2 hcz123_3 hcz123_4 hcz123_5 hcz123_6 hcz123_7
           try clear hcz12_0 hcz12_1 hcz12_2 hcz12_3 hcz12_4 hcz12_5 hcz12_6 hcz12_7
           try clear hcz131_0 hcz131_1 hcz131_2 hcz131_3 hcz131_4 hcz131_5 hcz131_6 hcz131_7
           try clear hcz133_0 hcz133_1 hcz133_2 hcz133_3 hcz133_4 hcz133_5 hcz133_6 hcz133_7
           try clear hcz137_0 hcz137_1 hcz137_2 hcz137_3
           try clear hcz139_0 hcz139_1 hcz139_2 hcz139_3
           try clear hcz142_0 hcz142_1 hcz142_2 hcz142_3 hcz142_4 hcz142_5 hcz142_6 hcz142_7
           try clear hcz143_0 hcz143_1 hcz143_2 hcz143_3 hcz143_4 hcz143_5 hcz143_6 hcz143_7
           try clear hcz14_0 hcz14_1 hcz14_2 hcz14_3 hcz14_4 hcz14_5 hcz14_6 hcz14_7
           try clear hcz150_0 hcz150_1 hcz150_2 hcz150_3 hcz150_4 hcz150_5 hcz150_6 hcz150_7
           try clear hcz14_0 hcz14_1 hcz14_2 hcz14_3 hcz14_4 hcz14_5 hcz14_6 hcz14_7
           try clear hcz156_0 hcz156_1 hcz156_2 hcz156_3
           try clear hcz158_0 hcz158_1 hcz158_2 hcz158_3
           try clear hcz159_0 hcz159_1 hcz159_2 hcz159_3 hcz159_4 hcz159_5 hcz159_6 hcz159_7
           try clear hcz18_0 hcz18_1 hcz18_2 hcz18_3
           try clear hcz20_0 hcz20_1 hcz20_2 hcz20_3
           try clear hcz21_0 hcz21_1 hcz21_2 hcz21_3 hcz21_4 hcz21_5 hcz21_6 hcz21_7
           try clear hcz22_0 hcz22_1 hcz22_2 hcz22_3 hcz22_4 hcz22_5 hcz22_6 hcz22_7
           try clear hcz29_0 hcz29_1 hcz29_2 hcz29_3 hcz29_4 hcz29_5 hcz29_6 hcz29_7
           try clear hcz31_0 hcz31_1 hcz31_2 hcz31_3 hcz31_4 hcz31_5 hcz31_6 hcz31_7
           try clear hcz35_0 hcz35_1 hcz35_2 hcz35_3
           try clear hcz37_0 hcz37_1 hcz37_2 hcz37_3
           try clear hcz38_0 hcz38_1 hcz38_2 hcz38_3 hcz38_4 hcz38_5 hcz38_6 hcz38_7
           try clear hcz39_0 hcz39_1 hcz39_2 hcz39_3 hcz39_4 hcz39_5 hcz39_6 hcz39_7
           try clear hcz46_0 hcz46_1 hcz46_2 hcz46_3 hcz46_4 hcz46_5 hcz46_6 hcz46_7
           try clear hcz48_0 hcz48_1 hcz48_2 hcz48_3 hcz48_4 hcz48_5 hcz48_6 hcz48_7
           try clear hcz52_0 hcz52_1 hcz52_2 hcz52_3
           try clear hcz54_0 hcz54_1 hcz54_2 hcz54_3
           try clear hcz55_0 hcz55_1 hcz55_2 hcz55_3 hcz55_4 hcz55_5 hcz55_6 hcz55_7
           try clear hcz56_0 hcz56_1 hcz56_2 hcz56_3 hcz56_4 hcz56_5 hcz56_6 hcz56_7
           try clear hcz63_0 hcz63_1 hcz63_2 hcz63_3 hcz63_4 hcz63_5 hcz63_6 hcz63_7
           try clear hcz65_0 hcz65_1 hcz65_2 hcz65_3 hcz65_4 hcz65_5 hcz65_6 hcz65_7
           try clear hcz69_0 hcz69_1 hcz69_2 hcz69_3
           try clear hcz71_0 hcz71_1 hcz71_2 hcz71_3
           try clear hcz72_0 hcz72_1 hcz72_2 hcz72_3 hcz72_4 hcz72_5 hcz72_6 hcz72_7
           try clear hcz73_0 hcz73_1 hcz73_2 hcz73_3 hcz73_4 hcz73_5 hcz73_6 hcz73_7
           try clear hcz82_0 hcz82_1 hcz82_2 hcz82_3 hcz82_4 hcz82_5 hcz82_6 hcz82_7
           try clear hcz84_0 hcz84_1 hcz84_2 hcz84_3 hcz84_4 hcz84_5 hcz84_6 hcz84_7
           try clear hcz88_0 hcz88_1 hcz88_2 hcz88_3
           try clear hcz90_0 hcz90_1 hcz90_2 hcz90_3
           try clear hcz98_0 hcz98_1 hcz98_2 hcz98_3 hcz98_4 hcz98_5 hcz98_6 hcz98_7
           try clear hcz99_0 hcz99_1 hcz99_2 hcz99_3 hcz99_4 hcz99_5 hcz99_6 hcz99_7
           try clear hfz108_0 hfz108_1 hfz108_2 hfz108_3 hfz108_4 hfz108_5 hfz108_6 hfz108_7
           try clear hfz110_0 hfz110_1 hfz110_2 hfz110_3 hfz110_4 hfz110_5 hfz110_6 hfz110_7
           try clear hfz114_0 hfz114_1 hfz114_2 hfz114_3
           try clear hfz116_0 hfz116_1 hfz116_2 hfz116_3
           try clear hfz117_0 hfz117_1 hfz117_2 hfz117_3 hfz117_4 hfz117_5 hfz117_6 hfz117_7
           try clear hfz122_0 hfz122_1 hfz122_2 hfz122_3 hfz122_4 hfz122_5 hfz122_6 hfz122_7
           try clear hfz123_0 hfz123_1 hfz123_2 hfz123_3 hfz123_4 hfz123_5 hfz123_6 hfz123_7
           try clear hfz12_0 hfz12_1 hfz12_2 hfz12_3 hfz12_4 hfz12_5 hfz12_6 hfz12_7
           try clear hfz131_0 hfz131_1 hfz131_2 hfz131_3 hfz131_4 hfz131_5 hfz131_6 hfz131_7
           try clear hfz133_0 hfz133_1 hfz133_2 hfz133_3 hfz133_4 hfz133_5 hfz133_6 hfz133_7
           try clear hfz137_0 hfz137_1 hfz137_2 hfz137_3
           try clear hfz139_0 hfz139_1 hfz139_2 hfz139_3
           try clear hfz142_0 hfz142_1 hfz142_2 hfz142_3 hfz142_4 hfz142_5 hfz142_6 hfz142_7
           try clear hfz143_0 hfz143_1 hfz143_2 hfz143_3 hfz143_4 hfz143_5 hfz143_6 hfz143_7
           try clear hfz14_0 hfz14_1 hfz14_2 hfz14_3 hfz14_4 hfz14_5 hfz14_6 hfz14_7
           try clear hfz150_0 hfz150_1 hfz150_2 hfz150_3 hfz150_4 hfz150_5 hfz150_6 hfz150_7
           try clear hfz14_0 hfz14_1 hfz14_2 hfz14_3 hfz14_4 hfz14_5 hfz14_6 hfz14_7
           try clear hfz156_0 hfz156_1 hfz156_2 hfz156_3
           try clear hfz158_0 hfz158_1 hfz158_2 hfz158_3
           try clear hfz159_0 hfz159_1 hfz159_2 hfz159_3 hfz159_4 hfz159_5 hfz159_6 hfz159_7
           try clear hfz18_0 hfz18_1 hfz18_2 hfz18_3
           try clear hfz20_0 hfz20_1 hfz20_2 hfz20_3
           try clear hfz21_0 hfz21_1 hfz21_2 hfz21_3 hfz21_4 hfz21_5 hfz21_6 hfz21_7
           try clear hfz22_0 hfz22_1 hfz22_2 hfz22_3 hfz22_4 hfz22_5 hfz22_6 hfz22_7
           try clear hfz29_0 hfz29_1 hfz29_2 hfz29_3 hfz29_4 hfz29_5 hfz29_6 hfz29_7
           try clear hfz31_0 hfz31_1 hfz31_2 hfz31_3 hfz31_4 hfz31_5 hfz31_6 hfz31_7
           try clear hfz35_0 hfz35_1 hfz35_2 hfz35_3
           try clear hfz37_0 hfz37_1 hfz37_2 hfz37_3
           try clear hfz38_0 hfz38_1 hfz38_2 hfz38_3 hfz38_4 hfz38_5 hfz38_6 hfz38_7
           try clear hfz39_0 hfz39_1 hfz39_2 hfz39_3 hfz39_4 hfz39_5 hfz39_6 hfz39_7
           try clear hfz46_0 hfz46_1 hfz46_2 hfz46_3 hfz46_4 hfz46_5 hfz46_6 hfz46_7
           try clear hfz48_0 hfz48_1 hfz48_2 hfz48_3 hfz48_4 hfz48_5 hfz48_6 hfz48_7
           try clear hfz52_0 hfz52_1 hfz52_2 hfz52_3
           try clear hfz54_0 hfz54_1 hfz54_2 hfz54_3
           try clear hfz55_0 hfz55_1 hfz55_2 hfz55_3 hfz55_4 hfz55_5 hfz55_6 hfz55_7
           try clear hfz56_0 hfz56_1 hfz56_2 hfz56_3 hfz56_4 hfz56_5 hfz56_6 hfz56_7
           try clear hfz63_0 hfz63_1 hfz63_2 hfz63_3 hfz63_4 hfz63_5 hfz63_6 hfz63_7
           try clear hfz65_0 hfz65_1 hfz65_2 hfz65_3 hfz65_4 hfz65_5 hfz65_6 hfz65_7
           try clear hfz69_0 hfz69_1 hfz69_2 hfz69_3
           try clear hfz71_0 hfz71_1 hfz71_2 hfz71_3
           try clear hfz72_0 hfz72_1 hfz72_2 hfz72_3 hfz72_4 hfz72_5 hfz72_6 hfz72_7
           try clear hfz73_0 hfz73_1 hfz73_2 hfz73_3 hfz73_4 hfz73_5 hfz73_6 hfz73_7
           try clear hfz82_0 hfz82_1 hfz82_2 hfz82_3 hfz82_4 hfz82_5 hfz82_6 hfz82_7
           try clear hfz84_0 hfz84_1 hfz84_2 hfz84_3 hfz84_4 hfz84_5 hfz84_6 hfz84_7
           try clear hfz88_0 hfz88_1 hfz88_2 hfz88_3
           try clear hfz90_0 hfz90_1 hfz90_2 hfz90_3
           try clear hfz98_0 hfz98_1 hfz98_2 hfz98_3 hfz98_4 hfz98_5 hfz98_6 hfz98_7
           try clear hfz99_0 hfz99_1 hfz99_2 hfz99_3 hfz99_4 hfz99_5 hfz99_6 hfz99_7
           obtain ⟨x5_1, x67_1, rfl, HA, HK1, HO_5, HO_65, HO_3002, HO_3003, BK1, BK2, BK3, HB⟩ := hrel
           cases gk with
           | zero => exact absurd HA.out (by simp [q21z.l0])
           | succ k1 =>
            have H := HA.out
            clear HA
            simp only [q21z.l0] at H
            by_cases c160 : x67_1 < (t9.length : Int)
            ·
             rw [if_pos c160] at H
             have c160b0 : decide (x67_1 < (t9.length : Int)) = true := decide_eq_true c160
             clear c160
             by_cases c161 : 0 ≤ x67_1
             ·
              rw [if_pos c161] at H
              have c161b0 : decide (0 ≤ x67_1) = true := decide_eq_true c161
              clear c161
              by_cases c162 : x67_1 < (t9.length : Int)
              ·
               rw [if_pos c162] at H
               have c162b0 : decide (x67_1 < (t9.length : Int)) = true := decide_eq_true c162
               clear c162
               obtain ⟨y36, hy36⟩ : ∃ y_ : List Int, y_ = (([rd t9 x67_1] : List Int)) := ⟨_, rfl⟩
               replace H : ((q19z.f k1 l0_3 y36).bind fun t39 => (if t39 = true then (q21z.l0 k1 x5_1 t9 (t9.length : Int) (wrap64 (x67_1 + 1)) a0_0 a0_1 l0_2 l0_3 t4 t5 t6 t9 t12 t13 t14 t15) else (if x5_1.length < 35184372088832 then (q21z.l0 k1 (x5_1 ++ [rd t9 x67_1]) t9 (t9.length : Int) (wrap64 (x67_1 + 1)) a0_0 a0_1 l0_2 l0_3 t4 t5 t6 t9 t12 t13 t14 t15) else (none)))) = some (r1, r2, r3, r4, r5, r6, r7, r8) := by first | (rw [hy36]; with_reducible exact H) | (have H2_ := (Option.bind_some _ _).symm.trans H; rw [hy36]; with_reducible exact H2_) | (have H2_ := (Option.bind_some _ _).symm.trans H; with_reducible exact H2_) | with_reducible exact H | (rw [hy36]; exact H) | exact H
               have Ny36 := Aside0.mk hy36
               clear hy36
               replace H := Option.bind_eq_some_iff.mp H
               obtain ⟨t39, A1630, H⟩ := H
               replace H : (if t39 = true then (q21z.l0 k1 x5_1 t9 (t9.length : Int) (wrap64 (x67_1 + 1)) a0_0 a0_1 l0_2 l0_3 t4 t5 t6 t9 t12 t13 t14 t15) else (if x5_1.length < 35184372088832 then (q21z.l0 k1 (x5_1 ++ [rd t9 x67_1]) t9 (t9.length : Int) (wrap64 (x67_1 + 1)) a0_0 a0_1 l0_2 l0_3 t4 t5 t6 t9 t12 t13 t14 t15) else (none))) = some (r1, r2, r3, r4, r5, r6, r7, r8) := H
               have A163 := Aside0.mk A1630
               clear A1630
               by_cases c164 : t39 = true
               ·
                subst c164
                have H1 : (q21z.l0 k1 x5_1 t9 (t9.length : Int) (wrap64 (x67_1 + 1)) a0_0 a0_1 l0_2 l0_3 t4 t5 t6 t9 t12 t13 t14 t15) = some (r1, r2, r3, r4, r5, r6, r7, r8) := by rw [if_pos rfl] at H; exact H
                clear H
                have H := H1
                clear H1
                have H' := Aside0.mk H
                clear H
                have p35 : 0 ≤ (x67_1 : Int) := of_decide_eq_true (by first | (with_reducible assumption) | assumption)
                have q35 : x67_1 < (t9.length : Int) := of_decide_eq_true (by first | (with_reducible assumption) | assumption)
                obtain ⟨ad35, e35, hx35_0⟩ := Kd.at_int (Kd.R_reads' HO_65.out).2.2 x67_1 p35 q35
                cases e35
                replace p35 := eq_true p35
                replace q35 := eq_true q35
                have hnb165 := NB1_2.out
                have hnc165 := NB2_1.out
                have hnb166 := NB1_3.out
                have hnc166 := NB3_1.out
                obtain ⟨hcz167_0, hcz167_1, hcz167_2, hcz167_3, hfz167_0, hfz167_1, hfz167_2, hfz167_3⟩ := bc4 BK1
                go_wp2_with (first | ((with_reducible refine gate_dst (N := 74) rfl ?_); refine Kd.R_lit (Kd.int .u32) _ 22 ?hg (N := 74) ?hd (xs := ([rd t9 x67_1] : List Int)) (inner := [.int .u32 (rd t9 x67_1)]) (ok := fun _ => True) (okp := fun _ => True) ?hr ?hp (fun _ hk => hk) trivial (Below.refl _ _) (Nat.le_refl _) (by simp) ?_; (case hd => rfl); (case hg => rfl); (case hr => first | (go_simp; done) | (go_simp; rfl)); (case hp => exact (Reps.one (show Kd.M (Kd.int .u32) _ _ _ (rd t9 x67_1) [.int .u32 (rd t9 x67_1)] from rfl) (Reps.none _ _))); intro v37 w168 ho169 hb hg_ hnew_; clear hg_ hnew_; (first | rw [← Ny36.out] at ho169 | (simp only [Int.reduceToNat] at ho169; rw [← Ny36.out] at ho169)); have HO38 := Aside0.mk (Kd.R_lower (Kd.R_new' (Kd.R_new' (Kd.R_new' (Kd.R_new' ho169 (Kd.R_lt (rW HO_5))) (Kd.R_lt (rW HO_65))) (Kd.R_lt (rW HO_3002))) (Kd.R_lt (rW HO_3003))) (below_size (hbW HB))); replace HO_5 := Aside0.mk (Kd.R_elder' (rW HO_5) (Kd.R_base ho169) hb); replace HO_65 := Aside0.mk (Kd.R_elder' (rW HO_65) (Kd.R_base ho169) hb); replace HO_3002 := Aside0.mk (Kd.R_elder' (rW HO_3002) (Kd.R_base ho169) hb); replace HO_3003 := Aside0.mk (Kd.R_elder' (rW HO_3003) (Kd.R_base ho169) hb); replace BK1 := bkB BK1 hb; replace BK2 := bkB BK2 hb; replace BK3 := bkB BK3 hb; replace HB := hbS HB hb; clear hb ho169; obtain ⟨Ao170, co170, eo170⟩ := Kd.R_slice HO38.out; subst eo170) | ((with_reducible refine gate_callee (f := 21) rfl ?_); refine goesL_ (some 75) rfl rfl Try.func21 (by kernel_rfl) rfl #[.slice A0_3 l0_3.length c0_3, .slice Ao170 y36.length co170] rfl (by (try simp only [List.map_toArray, List.map_cons, List.map_nil]); first | done | rfl | (simp only [List.length_drop, List.length_take]; rfl)) ?_; (with_reducible refine (q19z.calls k1 _ _ l0_3 _ _ y36 true _ ?side1 ?side2 ?side3 ?side4 A163.out).mono ?_); (case side1 => repeat (first | exact (Kd.C_below HR0_3.out HB.out) | (with_reducible refine Kd.C_alloc ?_ _) | (with_reducible refine Kd.C_drewN ?_ _) | (with_reducible refine Kd.C_drew ?_))); (case side2 => exact HC0_3.out); (case side3 => repeat (first | exact (Kd.R_reads' HO38.out).2.2 | (with_reducible refine Kd.C_alloc ?_ _) | (with_reducible refine Kd.C_drewN ?_ _) | (with_reducible refine Kd.C_drew ?_))); (case side4 => exact (Kd.R_reads' HO38.out).2.1); rintro e w171 ⟨rfl, hb⟩; refine ⟨_, rfl, ?_⟩; replace HO_5 := Aside0.mk (Kd.R_below (rW HO_5) hb); replace HO_65 := Aside0.mk (Kd.R_below (rW HO_65) hb); replace HO_3002 := Aside0.mk (Kd.R_below (rW HO_3002) hb); replace HO_3003 := Aside0.mk (Kd.R_below (rW HO_3003) hb); replace HO38 := Aside0.mk (Kd.R_below (rW HO38) hb); replace BK1 := bkB BK1 hb; replace BK2 := bkB BK2 hb; replace BK3 := bkB BK3 hb; replace HB := hbS HB hb; (try clear hb); (try clear hk)))
                go_roundg k1
                case measure => have := HK1.out; omega
                case rel => exact ⟨(x5_1), (wrap64 (x67_1 + 1)), (by first | rfl | (simp; done) | (simp [*]; done)), H', ⟨by have := HK1.out; omega⟩, ⟨by (with_reducible repeat (first | apply Kd.R_alloc | apply Kd.R_drewN | apply Kd.R_drew)); exact Kd.R_mono HO_5.out (fun _ hk => ⟨hk.1.1, ⟨hk.1.2.1, hk.1.2.2⟩⟩)⟩, ⟨by (with_reducible repeat (first | apply Kd.R_alloc | apply Kd.R_drewN | apply Kd.R_drew)); exact Kd.R_mono HO_65.out (fun _ hk => ⟨hk.1.1, hk.1.2⟩)⟩, ⟨by (with_reducible repeat (first | apply Kd.R_alloc | apply Kd.R_drewN | apply Kd.R_drew)); exact Kd.R_mono HO_3002.out (fun _ hk => ⟨hk.1.1, ⟨hk.1.2.1, hk.1.2.2⟩⟩)⟩, ⟨by (with_reducible repeat (first | apply Kd.R_alloc | apply Kd.R_drewN | apply Kd.R_drew)); exact Kd.R_mono HO_3003.out (fun _ hk => ⟨hk.1.1, hk.1.2⟩)⟩, ⟨by (with_reducible repeat (first | refine blk_drewN ?_ _ | refine blk_drew ?_ | refine blk_alloc ?_ _)); exact BK1.out⟩, ⟨by (with_reducible repeat (first | refine blk_drewN ?_ _ | refine blk_drew ?_ | refine blk_alloc ?_ _)); exact BK2.out⟩, ⟨by (with_reducible repeat (first | refine blk_drewN ?_ _ | refine blk_drew ?_ | refine blk_alloc ?_ _)); exact BK3.out⟩, ⟨hbW HB⟩⟩
               ·
                replace c164 := Bool.eq_false_iff.mpr c164
                subst c164
                have H1 : (if x5_1.length < 35184372088832 then (q21z.l0 k1 (x5_1 ++ [rd t9 x67_1]) t9 (t9.length : Int) (wrap64 (x67_1 + 1)) a0_0 a0_1 l0_2 l0_3 t4 t5 t6 t9 t12 t13 t14 t15) else (none)) = some (r1, r2, r3, r4, r5, r6, r7, r8) := by rw [if_neg (show ¬ (false = true) by decide)] at H; exact H
                clear H
                have H := H1
                clear H1
                by_cases c172 : x5_1.length < 35184372088832
                ·
                 rw [if_pos c172] at H
                 have LMc172 := Aside0.mk c172
                 clear c172
                 obtain ⟨y40, hy40⟩ : ∃ y_ : List Int, y_ = (x5_1 ++ [rd t9 x67_1]) := ⟨_, rfl⟩
                 replace H : (q21z.l0 k1 y40 t9 (t9.length : Int) (wrap64 (x67_1 + 1)) a0_0 a0_1 l0_2 l0_3 t4 t5 t6 t9 t12 t13 t14 t15) = some (r1, r2, r3, r4, r5, r6, r7, r8) := by first | (rw [hy40]; with_reducible exact H) | (have H2_ := (Option.bind_some _ _).symm.trans H; rw [hy40]; with_reducible exact H2_) | (have H2_ := (Option.bind_some _ _).symm.trans H; with_reducible exact H2_) | with_reducible exact H | (rw [hy40]; exact H) | exact H
                 have Ny40 := Aside0.mk hy40
                 clear hy40
                 have H' := Aside0.mk H
                 clear H
                 have p35 : 0 ≤ (x67_1 : Int) := of_decide_eq_true (by first | (with_reducible assumption) | assumption)
                 have q35 : x67_1 < (t9.length : Int) := of_decide_eq_true (by first | (with_reducible assumption) | assumption)
                 obtain ⟨ad35, e35, hx35_0⟩ := Kd.at_int (Kd.R_reads' HO_65.out).2.2 x67_1 p35 q35
                 cases e35
                 replace p35 := eq_true p35
                 replace q35 := eq_true q35
                 have hnb173 := NB1_2.out
                 have hnc173 := NB2_1.out
                 have hnb174 := NB1_3.out
                 have hnc174 := NB3_1.out
                 obtain ⟨hcz175_0, hcz175_1, hcz175_2, hcz175_3, hfz175_0, hfz175_1, hfz175_2, hfz175_3⟩ := bc4 BK1
                 go_wp2_with (first | ((with_reducible refine gate_dst (N := 74) rfl ?_); refine Kd.R_lit (Kd.int .u32) _ 22 ?hg (N := 74) ?hd (xs := ([rd t9 x67_1] : List Int)) (inner := [.int .u32 (rd t9 x67_1)]) (ok := fun _ => True) (okp := fun _ => True) ?hr ?hp (fun _ hk => hk) trivial (Below.refl _ _) (Nat.le_refl _) (by simp) ?_; (case hd => rfl); (case hg => rfl); (case hr => first | (go_simp; done) | (go_simp; rfl)); (case hp => exact (Reps.one (show Kd.M (Kd.int .u32) _ _ _ (rd t9 x67_1) [.int .u32 (rd t9 x67_1)] from rfl) (Reps.none _ _))); intro v37 w176 ho177 hb hg_ hnew_; clear hg_ hnew_; (first | rw [← Ny36.out] at ho177 | (simp only [Int.reduceToNat] at ho177; rw [← Ny36.out] at ho177)); have HO38 := Aside0.mk (Kd.R_lower (Kd.R_new' (Kd.R_new' (Kd.R_new' (Kd.R_new' ho177 (Kd.R_lt (rW HO_5))) (Kd.R_lt (rW HO_65))) (Kd.R_lt (rW HO_3002))) (Kd.R_lt (rW HO_3003))) (below_size (hbW HB))); replace HO_5 := Aside0.mk (Kd.R_elder' (rW HO_5) (Kd.R_base ho177) hb); replace HO_65 := Aside0.mk (Kd.R_elder' (rW HO_65) (Kd.R_base ho177) hb); replace HO_3002 := Aside0.mk (Kd.R_elder' (rW HO_3002) (Kd.R_base ho177) hb); replace HO_3003 := Aside0.mk (Kd.R_elder' (rW HO_3003) (Kd.R_base ho177) hb); replace BK1 := bkB BK1 hb; replace BK2 := bkB BK2 hb; replace BK3 := bkB BK3 hb; replace HB := hbS HB hb; clear hb ho177; obtain ⟨Ao178, co178, eo178⟩ := Kd.R_slice HO38.out; subst eo178) | ((with_reducible refine gate_callee (f := 21) rfl ?_); refine goesL_ (some 75) rfl rfl Try.func21 (by kernel_rfl) rfl #[.slice A0_3 l0_3.length c0_3, .slice Ao178 y36.length co178] rfl (by (try simp only [List.map_toArray, List.map_cons, List.map_nil]); first | done | rfl | (simp only [List.length_drop, List.length_take]; rfl)) ?_; (with_reducible refine (q19z.calls k1 _ _ l0_3 _ _ y36 false _ ?side1 ?side2 ?side3 ?side4 A163.out).mono ?_); (case side1 => repeat (first | exact (Kd.C_below HR0_3.out HB.out) | (with_reducible refine Kd.C_alloc ?_ _) | (with_reducible refine Kd.C_drewN ?_ _) | (with_reducible refine Kd.C_drew ?_))); (case side2 => exact HC0_3.out); (case side3 => repeat (first | exact (Kd.R_reads' HO38.out).2.2 | (with_reducible refine Kd.C_alloc ?_ _) | (with_reducible refine Kd.C_drewN ?_ _) | (with_reducible refine Kd.C_drew ?_))); (case side4 => exact (Kd.R_reads' HO38.out).2.1); rintro e w179 ⟨rfl, hb⟩; refine ⟨_, rfl, ?_⟩; replace HO_5 := Aside0.mk (Kd.R_below (rW HO_5) hb); replace HO_65 := Aside0.mk (Kd.R_below (rW HO_65) hb); replace HO_3002 := Aside0.mk (Kd.R_below (rW HO_3002) hb); replace HO_3003 := Aside0.mk (Kd.R_below (rW HO_3003) hb); replace HO38 := Aside0.mk (Kd.R_below (rW HO38) hb); replace BK1 := bkB BK1 hb; replace BK2 := bkB BK2 hb; replace BK3 := bkB BK3 hb; replace HB := hbS HB hb; (try clear hb); (try clear hk)) | ((with_reducible refine gate_builtin (b := .append) (xs := #[.tmp 77, .tmp 79]) rfl ?_); at_builtin; refine Kd.R_append (Kd.int .u32) (w0 := w) w.heap.size rfl (.tmp 77) (.tmp 79) 23 22 (.int .u32 0) 4 rfl Try.underlying23 info22 rfl (by decide) (by omega) u5 x5_1 (rd t9 x67_1) [.int .u32 (rd t9 x67_1)] (fun k_ => some k_ ≠ (.slice (some ad35) t9.length co16 : Value).ownBlock ∧ some k_ ≠ (.slice Ao15 t6.length co15 : Value).ownBlock ∧ some k_ ≠ (.slice (some ad35) t9.length co16 : Value).ownBlock ∧ some k_ ≠ (.slice Ao178 y36.length co178 : Value).ownBlock) (fun _ => False) rfl rfl ?aP (fun _ hk => hk.elim) ?aF ?aO ?aB ?aS ?aL ?_; (case aP => exact rfl); (case aB => exact (hbW HB)); (case aF => exact (fun k_ hk => ⟨Kd.fresh' (Kd.R_lt (rW HO_65)) k_ hk, Kd.fresh' (Kd.R_lt (rW HO_3002)) k_ hk, Kd.fresh' (Kd.R_lt (rW HO_3003)) k_ hk, Kd.fresh' (Kd.R_lt (rW HO38)) k_ hk⟩)); (case aO => exact (by (with_reducible repeat (first | apply Kd.R_alloc | apply Kd.R_drewN | apply Kd.R_drew)); exact Kd.R_mono HO_5.out (fun _ hk => ⟨hk.1.1, ⟨hk.1.2.1, ⟨hk.1.2.2, hk.2⟩⟩⟩))); (case aS => exact (below_size (hbW HB))); (case aL => have := LMc172.out; omega); intro v41 w180 ho hb hg hat; rw [← Ny40.out] at ho; have n0_ := Aside0.mk (Kd.R_after (ok := (fun k_ => some k_ ≠ (.slice Ao15 t6.length co15 : Value).ownBlock ∧ some k_ ≠ (.slice Ao178 y36.length co178 : Value).ownBlock)) (by (with_reducible repeat (first | apply Kd.R_alloc | apply Kd.R_drewN | apply Kd.R_drew)); exact Kd.R_mono HO_65.out (fun _ hk => ⟨⟨hk.1.2, hk.2⟩, hk.1.1⟩)) hg hat); have n1_ := Aside0.mk (Kd.R_after (ok := (fun k_ => some k_ ≠ (.slice (some ad35) t9.length co16 : Value).ownBlock ∧ some k_ ≠ (.slice (some ad35) t9.length co16 : Value).ownBlock ∧ some k_ ≠ (.slice Ao178 y36.length co178 : Value).ownBlock)) (by (with_reducible repeat (first | apply Kd.R_alloc | apply Kd.R_drewN | apply Kd.R_drew)); exact Kd.R_mono HO_3002.out (fun _ hk => ⟨⟨hk.1.2.1, ⟨hk.1.2.2, hk.2⟩⟩, hk.1.1⟩)) hg hat); have n2_ := Aside0.mk (Kd.R_after (ok := (fun k_ => some k_ ≠ (.slice Ao15 t6.length co15 : Value).ownBlock ∧ some k_ ≠ (.slice Ao178 y36.length co178 : Value).ownBlock)) (by (with_reducible repeat (first | apply Kd.R_alloc | apply Kd.R_drewN | apply Kd.R_drew)); exact Kd.R_mono HO_3003.out (fun _ hk => ⟨⟨hk.1.2, hk.2⟩, hk.1.1⟩)) hg hat); have n3_ := Aside0.mk (blk_grown (g := gb1) (o := .cells #[.int .i64 a0_0, .int .u32 a0_1, .slice A0_2 l0_2.length c0_2, .slice A0_3 l0_3.length c0_3] 26 (0, 0)) (bkW BK1) hg (Kd.R_ne HO_5.out BK1.out (by decide))); have n4_ := Aside0.mk (blk_grown (g := gb2) (o := .cells #[.int .u32 t4, .int .i64 t5, .slice Ao15 t6.length co15, .slice (some ad35) t9.length co16, .int .u32 t12, .int .u32 t13, .int .i64 t14, .int .u32 t15] 30 (0, 0)) (bkW BK2) hg (Kd.R_ne HO_5.out BK2.out (by decide))); have n5_ := Aside0.mk (blk_grown (g := gb3) (o := .cells #[.int .u32 0, .int .i64 0, .slice none 0 0, .slice none 0 0, .int .u32 0, .int .u32 0, .int .i64 0, .int .u32 0] 30 (0, 0)) (bkW BK3) hg (Kd.R_ne HO_5.out BK3.out (by decide))); have n6_ := Aside0.mk (Kd.R_after (ok := (fun k_ => some k_ ≠ (.slice (some ad35) t9.length co16 : Value).ownBlock ∧ some k_ ≠ (.slice Ao15 t6.length co15 : Value).ownBlock ∧ some k_ ≠ (.slice (some ad35) t9.length co16 : Value).ownBlock)) (by (with_reducible repeat (first | apply Kd.R_alloc | apply Kd.R_drewN | apply Kd.R_drew)); exact Kd.R_mono HO38.out (fun _ hk => ⟨⟨hk.1.1.2, ⟨hk.1.2, hk.2⟩⟩, hk.1.1.1.2⟩)) hg hat); have n7_ := Aside0.mk (hb); have n8_ := Aside0.mk (ho); clear HO_65; clear HO_3002; clear HO_3003; clear BK1; clear BK2; clear BK3; clear HO38; clear HB; clear HO_5; have HO_65 := n0_; have HO_3002 := n1_; have HO_3003 := n2_; have BK1 := n3_; have BK2 := n4_; have BK3 := n5_; have HO38 := n6_; have HB := n7_; have HO42 := n8_; clear n0_ n1_ n2_ n3_ n4_ n5_ n6_ n7_ n8_; clear ho hb hg hat))
                 go_roundg k1
                 case measure => have := HK1.out; omega
                 case rel => exact ⟨(y40), (wrap64 (x67_1 + 1)), (by first | rfl | (simp; done) | (simp [*]; done)), H', ⟨by have := HK1.out; omega⟩, ⟨by (with_reducible repeat (first | apply Kd.R_alloc | apply Kd.R_drewN | apply Kd.R_drew)); exact Kd.R_mono HO42.out (fun _ hk => ⟨hk.1, ⟨hk.2.1, hk.2.2.1⟩⟩)⟩, ⟨by (with_reducible repeat (first | apply Kd.R_alloc | apply Kd.R_drewN | apply Kd.R_drew)); exact Kd.R_mono HO_65.out (fun _ hk => ⟨hk.2, hk.1.1⟩)⟩, ⟨by (with_reducible repeat (first | apply Kd.R_alloc | apply Kd.R_drewN | apply Kd.R_drew)); exact Kd.R_mono HO_3002.out (fun _ hk => ⟨hk.2, ⟨hk.1.1, hk.1.2.1⟩⟩)⟩, ⟨by (with_reducible repeat (first | apply Kd.R_alloc | apply Kd.R_drewN | apply Kd.R_drew)); exact Kd.R_mono HO_3003.out (fun _ hk => ⟨hk.2, hk.1.1⟩)⟩, ⟨by (with_reducible repeat (first | refine blk_drewN ?_ _ | refine blk_drew ?_ | refine blk_alloc ?_ _)); exact BK1.out⟩, ⟨by (with_reducible repeat (first | refine blk_drewN ?_ _ | refine blk_drew ?_ | refine blk_alloc ?_ _)); exact BK2.out⟩, ⟨by (with_reducible repeat (first | refine blk_drewN ?_ _ | refine blk_drew ?_ | refine blk_alloc ?_ _)); exact BK3.out⟩, ⟨hbW HB⟩⟩
                ·
                 rw [if_neg c172] at H
                 exact absurd H (by simp)
              ·
               rw [if_neg c162] at H
               exact absurd H (by simp)
             ·
              rw [if_neg c161] at H
              exact absurd H (by simp)
            ·
             rw [if_neg c160] at H
             have c160b0 : decide (x67_1 < (t9.length : Int)) = false := decide_eq_false c160
             clear c160
             replace H := Option.bind_eq_some_iff.mp H
             obtain ⟨t43, A1810, H⟩ := H
             replace H : (some (t4, t5, t6, t43, t12, t13, t14, t15)) = some (r1, r2, r3, r4, r5, r6, r7, r8) := H
             have A181 := Aside0.mk A1810
             clear A1810
             simp only [Option.some.injEq, Prod.mk.injEq] at H
             obtain ⟨rfl, rfl, rfl, rfl, rfl, rfl, rfl, rfl⟩ := H
             obtain ⟨Ao182, co182, eo182⟩ := Kd.R_slice HO_5.out
             subst eo182
             go_wp2_with (first | ((with_reducible refine gate_callee (f := 37) rfl ?_); refine goesL_ (some 83) rfl rfl Try.func37 (by kernel_rfl) rfl #[.slice Ao182 x5_1.length co182] rfl (by (try simp only [List.map_toArray, List.map_cons, List.map_nil]); first | done | rfl | (simp only [List.length_drop, List.length_take]; rfl)) ?_; (with_reducible refine (q20z.calls k1 _ _ x5_1 t43 _ ?side1 ?side2 A181.out).mono ?_); (case side1 => repeat (first | exact (Kd.R_reads' HO_5.out).2.2 | (with_reducible refine Kd.C_alloc ?_ _) | (with_reducible refine Kd.C_drewN ?_ _) | (with_reducible refine Kd.C_drew ?_))); (case side2 => exact (Kd.R_reads' HO_5.out).2.1); rintro e w183 ⟨v44, rfl, ho0, hb⟩; refine ⟨_, rfl, ?_⟩; have HO45 := Aside0.mk (Kd.R_lower (Kd.R_new' (Kd.R_new' (Kd.R_new' (Kd.R_new' ho0 (Kd.R_lt (rW HO_5))) (Kd.R_lt (rW HO_65))) (Kd.R_lt (rW HO_3002))) (Kd.R_lt (rW HO_3003))) (below_size (hbW HB))); replace HO_5 := Aside0.mk (Kd.R_elder' (rW HO_5) (Kd.R_base ho0) hb); replace HO_65 := Aside0.mk (Kd.R_elder' (rW HO_65) (Kd.R_base ho0) hb); replace HO_3002 := Aside0.mk (Kd.R_elder' (rW HO_3002) (Kd.R_base ho0) hb); replace HO_3003 := Aside0.mk (Kd.R_elder' (rW HO_3003) (Kd.R_base ho0) hb); replace BK1 := bkB BK1 hb; replace BK2 := bkB BK2 hb; replace BK3 := bkB BK3 hb; replace HB := hbS HB hb; (try clear hb); (try clear ho0); obtain ⟨Ao184, co184, eo184⟩ := Kd.R_slice HO45.out; subst eo184; have hnb185 := NB2_1.out; have hnc185 := NB1_2.out; have hnb186 := NB2_3.out; have hnc186 := NB3_2.out; obtain ⟨hcz187_0, hcz187_1, hcz187_2, hcz187_3, hcz187_4, hcz187_5, hcz187_6, hcz187_7, hfz187_0, hfz187_1, hfz187_2, hfz187_3, hfz187_4, hfz187_5, hfz187_6, hfz187_7⟩ := bc8 BK2; have hnb188 := NB3_1.out; have hnc188 := NB1_3.out; obtain ⟨hcz189_0, hcz189_1, hcz189_2, hcz189_3, hcz189_4, hcz189_5, hcz189_6, hcz189_7, hfz189_0, hfz189_1, hfz189_2, hfz189_3, hfz189_4, hfz189_5, hfz189_6, hfz189_7⟩ := bc8 BK3))
             refine bodyPost_ret (results_cell_row rfl _ _ gb3 30 #[.int .u32 t4, .int .i64 t5, .slice Ao15 t6.length co15, .slice Ao184 t43.length co184, .int .u32 t12, .int .u32 t13, .int .i64 t14, .int .u32 t15] (0, 0) _ rfl (bp8 BK3) Try.underlying30 rfl (by kernel_rfl)) rfl ?_
             exact ⟨_, _, by first | rfl | (simp [errW_none, errW_some] <;> rfl) | (simp [*, errW_none, errW_some] <;> rfl), moR (rW HO_3002), moR (rW HO45), hbW HB⟩
         ·
          rw [if_neg c144] at H
          have c144b0 : (a0_0 == 8) = false := beq_eq_false_iff_ne.mpr c144
          have c144b1 : (a0_0 != 8) = true := bne_iff_ne.mpr c144
          simp only [Option.some.injEq, Prod.mk.injEq] at H
          obtain ⟨rfl, rfl, rfl, rfl, rfl, rfl, rfl, rfl⟩ := H
          go_wp2
          refine bodyPost_ret (results_cell_row rfl _ _ gb3 30 #[.int .u32 t4, .int .i64 t5, .slice Ao15 t6.length co15, .slice Ao16 t9.length co16, .int .u32 t12, .int .u32 t13, .int .i64 t14, .int .u32 t15] (0, 0) _ rfl (bp8 BK3) Try.underlying30 rfl (by kernel_rfl)) rfl ?_
          exact ⟨_, _, by first | rfl | (simp [errW_none, errW_some] <;> rfl) | (simp [*, errW_none, errW_some] <;> rfl), moR (rW HO8), moR (rW HO11), hbW HB⟩
 ·
  replace c5 := Bool.eq_false_iff.mpr c5
  subst c5
  have H1 : (some (t4, t5, t6, t9, t12, t13, t14, t15)) = some (r1, r2, r3, r4, r5, r6, r7, r8) := by rw [if_neg (show ¬ (false = true) by decide)] at H; exact H
  clear H
  have H := H1
  clear H1
  simp only [Option.some.injEq, Prod.mk.injEq] at H
  obtain ⟨rfl, rfl, rfl, rfl, rfl, rfl, rfl, rfl⟩ := H
  go_enter Try.func17, Try.ntmps17
  go_wp2_with (first | ((with_reducible refine gate_dst (N := 2) rfl ?_); refine box_event ?hg (N := 2) ?hd (cs := #[.int .i64 a0_0, .int .u32 a0_1, .slice A0_2 l0_2.length c0_2, .slice A0_3 l0_3.length c0_3]) (t := 26) ?hr ?_; (case hd => rfl); (case hg => rfl); (case hr => first | (go_simp; done) | (go_simp; rfl)); intro gb1 hg w206 hbox hb; have BK1 := Aside0.mk (hbox); have GW1 := gwS hg HB; have GE1 := gwS hg HB; replace HB := hbS HB hb; clear hb hbox hg) | ((with_reducible refine gate_dst (N := 3) rfl ?_); refine box_event ?hg (N := 3) ?hd (cs := #[.int .u32 a1_0, .int .i64 a1_1, .slice A1_2 l1_2.length c1_2, .slice A1_3 l1_3.length c1_3, .int .u32 a1_4, .int .u32 a1_5, .int .i64 a1_6, .int .u32 a1_7]) (t := 30) ?hr ?_; (case hd => rfl); (case hg => rfl); (case hr => first | (go_simp; done) | (go_simp; rfl)); intro gb2 hg w207 hbox hb; have BK2 := Aside0.mk (hbox); have GW2 := gwS hg HB; have GE2 := gwS hg HB; have NB1_2 := nbL hg BK1; have NB2_1 := nbG hg BK1; replace BK1 := bkB BK1 hb; replace HB := hbS HB hb; clear hb hbox hg) | ((with_reducible refine gate_dst (N := 4) rfl ?_); refine box_event ?hg (N := 4) ?hd (cs := #[.int .u32 0, .int .i64 0, .slice none 0 0, .slice none 0 0, .int .u32 0, .int .u32 0, .int .i64 0, .int .u32 0]) (t := 30) ?hr ?_; (case hd => rfl); (case hg => rfl); (case hr => first | (go_simp; done) | (go_simp; rfl)); intro gb3 hg w208 hbox hb; have BK3 := Aside0.mk (hbox); have GW3 := gwS hg HB; have GE3 := gwS hg HB; have NB1_3 := nbL hg BK1; have NB3_1 := nbG hg BK1; have NB2_3 := nbL hg BK2; have NB3_2 := nbG hg BK2; replace BK1 := bkB BK1 hb; replace BK2 := bkB BK2 hb; replace HB := hbS HB hb; clear hb hbox hg; have hnb209 := NB2_1.out; have hnc209 := NB1_2.out; have hnb210 := NB2_3.out; have hnc210 := NB3_2.out; obtain ⟨hcz211_0, hcz211_1, hcz211_2, hcz211_3, hcz211_4, hcz211_5, hcz211_6, hcz211_7, hfz211_0, hfz211_1, hfz211_2, hfz211_3, hfz211_4, hfz211_5, hfz211_6, hfz211_7⟩ := bc8 BK2) | ((with_reducible refine gate_callee (f := 12) rfl ?_); refine goesL_ (some 9) rfl rfl Try.func12 (by kernel_rfl) rfl #[.agg #[.int .u32 a1_0, .int .i64 a1_1, .slice A1_2 l1_2.length c1_2, .slice A1_3 l1_3.length c1_3, .int .u32 a1_4, .int .u32 a1_5, .int .i64 a1_6, .int .u32 a1_7]] rfl (by (try simp only [List.map_toArray, List.map_cons, List.map_nil]); first | done | rfl | (simp only [List.length_drop, List.length_take]; rfl)) ?_; (with_reducible refine (q4z.calls a1_0 a1_1 _ _ l1_2 _ _ l1_3 a1_4 a1_5 a1_6 a1_7 t4 t5 t6 t9 t12 t13 t14 t15 _ ?side1 ?side2 ?side3 ?side4 A3.out).mono ?_); (case side1 => repeat (first | exact (Kd.C_below HR1_2.out HB.out) | (with_reducible refine Kd.C_alloc ?_ _) | (with_reducible refine Kd.C_drewN ?_ _) | (with_reducible refine Kd.C_drew ?_))); (case side2 => exact HC1_2.out); (case side3 => repeat (first | exact (Kd.C_below HR1_3.out HB.out) | (with_reducible refine Kd.C_alloc ?_ _) | (with_reducible refine Kd.C_drewN ?_ _) | (with_reducible refine Kd.C_drew ?_))); (case side4 => exact HC1_3.out); rintro e w212 ⟨v7, v10, rfl, ho0, ho1, hb⟩; refine ⟨_, rfl, ?_⟩; have HO8 := Aside0.mk (Kd.R_lower ho0 (below_size (hbW HB))); have HO11 := Aside0.mk (Kd.R_lower ho1 (below_size (hbW HB))); replace BK1 := bkB BK1 hb; replace BK2 := bkB BK2 hb; replace BK3 := bkB BK3 hb; replace HB := hbS HB hb; (try clear hb); (try clear ho0); (try clear ho1); obtain ⟨hcz213_0, hcz213_1, hcz213_2, hcz213_3, hcz213_4, hcz213_5, hcz213_6, hcz213_7, hfz213_0, hfz213_1, hfz213_2, hfz213_3, hfz213_4, hfz213_5, hfz213_6, hfz213_7⟩ := bc8 BK2; obtain ⟨Ao214, co214, eo214⟩ := Kd.R_slice HO8.out; subst eo214; obtain ⟨Ao215, co215, eo215⟩ := Kd.R_slice HO11.out; subst eo215; have hnb216 := NB1_3.out; have hnc216 := NB3_1.out; obtain ⟨hcz217_0, hcz217_1, hcz217_2, hcz217_3, hfz217_0, hfz217_1, hfz217_2, hfz217_3⟩ := bc4 BK1) | ((with_reducible refine gate_callee (f := 15) rfl ?_); refine goesL_ (some 11) rfl rfl Try.func15 (by kernel_rfl) rfl #[.agg #[.int .i64 a0_0, .int .u32 a0_1, .slice A0_2 l0_2.length c0_2, .slice A0_3 l0_3.length c0_3]] rfl (by (try simp only [List.map_toArray, List.map_cons, List.map_nil]); first | done | rfl | (simp only [List.length_drop, List.length_take]; rfl)) ?_; (with_reducible refine (q13z.calls k a0_0 a0_1 _ _ l0_2 _ _ l0_3 false _ ?side1 ?side2 ?side3 ?side4 A4.out).mono ?_); (case side1 => exact Kd.C_below HR0_2.out (hbW HB)); (case side2 => exact HC0_2.out); (case side3 => exact Kd.C_below HR0_3.out (hbW HB)); (case side4 => exact HC0_3.out); rintro e w218 ⟨rfl, hb⟩; refine ⟨_, rfl, ?_⟩; replace HO8 := Aside0.mk (Kd.R_below (rW HO8) hb); replace HO11 := Aside0.mk (Kd.R_below (rW HO11) hb); replace BK1 := bvB BK1 hb; replace BK2 := Aside0.mk (blk_below (g := gb2) (o := .cells #[.int .u32 t4, .int .i64 t5, .slice Ao214 t6.length co214, .slice Ao215 t9.length co215, .int .u32 t12, .int .u32 t13, .int .i64 t14, .int .u32 t15] 30 (0, 0)) (bp8 BK2) hb); replace BK3 := bvB BK3 hb; replace HB := hbS HB hb; (try clear hb); obtain ⟨hcz219_0, hcz219_1, hcz219_2, hcz219_3, hcz219_4, hcz219_5, hcz219_6, hcz219_7, hfz219_0, hfz219_1, hfz219_2, hfz219_3, hfz219_4, hfz219_5, hfz219_6, hfz219_7⟩ := bc8 BK2; obtain ⟨hcz220_0, hcz220_1, hcz220_2, hcz220_3, hcz220_4, hcz220_5, hcz220_6, hcz220_7, hfz220_0, hfz220_1, hfz220_2, hfz220_3, hfz220_4, hfz220_5, hfz220_6, hfz220_7⟩ := bc8 BK3))
  refine bodyPost_ret (results_cell_row rfl _ _ gb3 30 #[.int .u32 t4, .int .i64 t5, .slice Ao214 t6.length co214, .slice Ao215 t9.length co215, .int .u32 t12, .int .u32 t13, .int .i64 t14, .int .u32 t15] (0, 0) _ rfl (bp8 BK3) Try.underlying30 rfl (by kernel_rfl)) rfl ?_
  exact ⟨_, _, by first | rfl | (simp [errW_none, errW_some] <;> rfl) | (simp [*, errW_none, errW_some] <;> rfl), moR (rW HO8), moR (rW HO11), hbW HB⟩

/-! ### dragomanref01_Nums: function 20 -/
def q22z.l0 : Nat → List Int → List Int → Int → Int → Option (Bool)
 | 0, _, _, _, _ => none
 | k + 1, x0, x1, x12, x13 => if x13 < x12 then (if 0 ≤ x13 then (if x13 < (x0.length : Int) then (if x13 < (x1.length : Int) then (if (rd x0 x13) = (rd x1 x13) then (q22z.l0 k x0 x1 x12 (wrap64 (x13 + 1))) else (some false)) else (none)) else (none)) else (none)) else (some true)
def q22z.f (k : Nat) (l0 : List Int) (l1 : List Int) : Option (Bool) := if (l0.length : Int) = (l1.length : Int) then (q22z.l0 k l0 l1 (l0.length : Int) 0) else (some false)
theorem q22z.mono_l : ∀ k, (∀ y0 y1 y2 y3, LeO (q22z.l0 k y0 y1 y2 y3) (q22z.l0 (k + 1) y0 y1 y2 y3))
 | 0 => fun _ _ _ _ r h => by simp [q22z.l0] at h
 | k + 1 => by
  have ih0 := q22z.mono_l k
  ·
   intro y0 y1 y2 y3
   unfold q22z.l0
   repeat' first
   | (with_reducible exact ih0 _ _ _ _)
   | (with_reducible exact LeO.refl _)
   | (with_reducible exact LeO.none _)
   | (with_reducible refine LeO.ite ?_ ?_)
   | (with_reducible refine LeO.bind ?_ (fun _ => ?_))
   | exact ih0 _ _ _ _
   | exact LeO.none _
   | refine LeO.ite ?_ ?_
   | refine LeO.bind ?_ (fun _ => ?_)
theorem q22z.mono : ∀ a0 a1 k, LeO (q22z.f k a0 a1) (q22z.f (k + 1) a0 a1) := by
 intro a0 a1 k
 have ih0 := q22z.mono_l k
 unfold q22z.f
 repeat' first
   | (with_reducible exact ih0 _ _ _ _)
   | (with_reducible exact LeO.refl _)
   | (with_reducible exact LeO.none _)
   | (with_reducible refine LeO.ite ?_ ?_)
   | (with_reducible refine LeO.bind ?_ (fun _ => ?_))
   | exact ih0 _ _ _ _
   | exact LeO.none _
   | refine LeO.ite ?_ ?_
   | refine LeO.bind ?_ (fun _ => ?_)
set_option maxHeartbeats 8000000 in
set_option maxRecDepth 100000 in
theorem q22z.calls (k : Nat) (A0 : Option Addr) (c0 : Nat) (l0 : List Int) (A1 : Option Addr) (c1 : Nat) (l1 : List Int) (r : Bool) (w : World) (hr0 : Kd.C (Kd.int .u32) w A0 l0.length l0) (hc0 : l0.length ≤ c0) (hr1 : Kd.C (Kd.int .u32) w A1 l1.length l1) (hc1 : l1.length ≤ c1) (h : q22z.f k l0 l1 = some r) :
  Calls Try.prog 20 #[.slice A0 l0.length c0, .slice A1 l1.length c1] w fun e w' => e = .returned (.bool r) ∧ Drawn0 w w' := by
 have HR0 := Aside0.mk hr0
 have HC0 := Aside0.mk hc0
 clear hr0 hc0
 have HR1 := Aside0.mk hr1
 have HC1 := Aside0.mk hc1
 clear hr1 hc1
 have H : (if (l0.length : Int) = (l1.length : Int) then (q22z.l0 k l0 l1 (l0.length : Int) 0) else (some false)) = some r := h
 clear h
 by_cases c3 : (l0.length : Int) = (l1.length : Int)
 ·
  rw [if_pos c3] at H
  have c3b0 : ((l0.length : Int) == (l1.length : Int)) = true := beq_iff_eq.mpr c3
  have c3b1 : ((l0.length : Int) != (l1.length : Int)) = false := bne_eq_false_iff_eq.mpr c3
  have c3b2 : (l0.length == l1.length) = true := by first | simpa using c3 | (simp at c3 ⊢; omega)
  clear c3
  have H' := Aside0.mk H
  clear H
  go_enter Try.func20, Try.ntmps20
  go_wp2
  repeat (go_quiet (fail); try go_wp2)
  go_loopg [13] k (fun kq v13 w' => ∃ (x13_1 : Int), v13 = .int .i64 x13_1 ∧ Aside0 (q22z.l0 kq l0 l1 (l0.length : Int) x13_1 = some r) ∧ Aside0 (kq ≤ k) ∧ Drawn0 w w')
  case atStart => exact ⟨(0), (by first | rfl | (simp; done) | (simp [*]; done)), H', ⟨Nat.le_refl _⟩, by repeat (first | exact Drawn0.refl _ | apply Drawn0.step)⟩
  case round =>
   clear H'
   try clear c1
   try clear c2
   try clear p2
   try clear c3
   try clear c3b0
   try clear c3b1
   try clear c3b2
   obtain ⟨x13_1, rfl, HA, HK1, ⟨m1, rfl⟩⟩ := hrel
   cases gk with
   | zero => exact absurd HA.out (by simp [q22z.l0])
   | succ k1 =>
    have H := HA.out
    clear HA
    simp only [q22z.l0] at H
    by_cases c4 : x13_1 < (l0.length : Int)
    ·
     rw [if_pos c4] at H
     have c4b0 : decide (x13_1 < (l0.length : Int)) = true := decide_eq_true c4
     clear c4
     by_cases c5 : 0 ≤ x13_1
     ·
      rw [if_pos c5] at H
      have c5b0 : decide (0 ≤ x13_1) = true := decide_eq_true c5
      clear c5
      by_cases c6 : x13_1 < (l0.length : Int)
      ·
       rw [if_pos c6] at H
       have c6b0 : decide (x13_1 < (l0.length : Int)) = true := decide_eq_true c6
       clear c6
       by_cases c7 : x13_1 < (l1.length : Int)
       ·
        rw [if_pos c7] at H
        have c7b0 : decide (x13_1 < (l1.length : Int)) = true := decide_eq_true c7
        clear c7
        by_cases c8 : (rd l0 x13_1) = (rd l1 x13_1)
        ·
         rw [if_pos c8] at H
         have c8b0 : ((rd l0 x13_1) == (rd l1 x13_1)) = true := beq_iff_eq.mpr c8
         have c8b1 : ((rd l0 x13_1) != (rd l1 x13_1)) = false := bne_eq_false_iff_eq.mpr c8
         clear c8
         have H' := Aside0.mk H
         clear H
         have p1 : 0 ≤ (x13_1 : Int) := of_decide_eq_true (by first | (with_reducible assumption) | assumption)
         have q1 : x13_1 < (l0.length : Int) := of_decide_eq_true (by first | (with_reducible assumption) | assumption)
         obtain ⟨ad1, e1, hx1_0⟩ := Kd.at_int HR0.out x13_1 p1 q1
         cases e1
         replace p1 := eq_true p1
         replace q1 := eq_true q1
         have p2 : 0 ≤ (x13_1 : Int) := of_decide_eq_true (by first | (with_reducible assumption) | assumption)
         have q2 : x13_1 < (l1.length : Int) := of_decide_eq_true (by first | (with_reducible assumption) | assumption)
         obtain ⟨ad2, e2, hx2_0⟩ := Kd.at_int HR1.out x13_1 p2 q2
         cases e2
         replace p2 := eq_true p2
         replace q2 := eq_true q2
         go_wp2
         repeat (go_quiet (fail); try go_wp2)
         go_roundg k1
         case measure => have := HK1.out; omega
         case rel => exact ⟨(wrap64 (x13_1 + 1)), (by first | rfl | (simp; done) | (simp [*]; done)), H', ⟨by have := HK1.out; omega⟩, by repeat (first | exact Drawn0.refl _ | apply Drawn0.step)⟩
        ·
         rw [if_neg c8] at H
         have c8b0 : ((rd l0 x13_1) == (rd l1 x13_1)) = false := beq_eq_false_iff_ne.mpr c8
         have c8b1 : ((rd l0 x13_1) != (rd l1 x13_1)) = true := bne_iff_ne.mpr c8
         obtain rfl := Option.some.inj H
         have p1 : 0 ≤ (x13_1 : Int) := of_decide_eq_true (by first | (with_reducible assumption) | assumption)
         have q1 : x13_1 < (l0.length : Int) := of_decide_eq_true (by first | (with_reducible assumption) | assumption)
         obtain ⟨ad1, e1, hx1_0⟩ := Kd.at_int HR0.out x13_1 p1 q1
         cases e1
         replace p1 := eq_true p1
         replace q1 := eq_true q1
         have p2 : 0 ≤ (x13_1 : Int) := of_decide_eq_true (by first | (with_reducible assumption) | assumption)
         have q2 : x13_1 < (l1.length : Int) := of_decide_eq_true (by first | (with_reducible assumption) | assumption)
         obtain ⟨ad2, e2, hx2_0⟩ := Kd.at_int HR1.out x13_1 p2 q2
         cases e2
         replace p2 := eq_true p2
         replace q2 := eq_true q2
         go_wp2
         repeat (go_quiet (fail); try go_wp2)
         go_ret
         exact ⟨by first | rfl | (simp; done) | (simp [*]; done), by repeat (first | exact Drawn0.refl _ | apply Drawn0.step)⟩
       ·
        rw [if_neg c7] at H
        exact absurd H (by simp)
      ·
       rw [if_neg c6] at H
       exact absurd H (by simp)
     ·
      rw [if_neg c5] at H
      exact absurd H (by simp)
    ·
     rw [if_neg c4] at H
     have c4b0 : decide (x13_1 < (l0.length : Int)) = false := decide_eq_false c4
     clear c4
     obtain rfl := Option.some.inj H
     go_wp2
     repeat (go_quiet (fail); try go_wp2)
     go_ret
     exact ⟨by first | rfl | (simp; done) | (simp [*]; done), by repeat (first | exact Drawn0.refl _ | apply Drawn0.step)⟩
 ·
  rw [if_neg c3] at H
  have c3b0 : ((l0.length : Int) == (l1.length : Int)) = false := beq_eq_false_iff_ne.mpr c3
  have c3b1 : ((l0.length : Int) != (l1.length : Int)) = true := bne_iff_ne.mpr c3
  have c3b2 : (l0.length == l1.length) = false := by first | simpa using c3 | (simp at c3 ⊢; omega)
  obtain rfl := Option.some.inj H
  go_enter Try.func20, Try.ntmps20
  go_wp2
  repeat (go_quiet (fail); try go_wp2)
  go_ret
  exact ⟨by first | rfl | (simp; done) | (simp [*]; done), by repeat (first | exact Drawn0.refl _ | apply Drawn0.step)⟩

theorem eqA50 (d : Nat) (w : World) (x0 y0 : Int) (x1 y1 : Int) :
    (Op.equalIn (d + 2) 50 (.agg #[.int .u32 x0, .int .u32 x1]) (.agg #[.int .u32 y0, .int .u32 y1])).run Try.prog w = .ok (x0 == y0 && (x1 == y1)) w := by
  refine eqA_of Try.underlying50 (by kernel_rfl) ?_
  refine eqf_cons (by rfl) (by go_simp; rfl) (by go_simp; rfl) (by go_simp) ?_
  exact eqf_last (by rfl) (by go_simp; rfl) (by go_simp; rfl) (by go_simp)
attribute [local go_sem high] eqA50
/-! ### dragomanref11_SameComms: function 38 -/
mutual
def q23z.l0 : Nat → List (S53) → List (S53) → Int → Int → Option (Bool)
 | 0, _, _, _, _ => none
 | k + 1, x0, x1, x13, x14 => if x14 < x13 then (if 0 ≤ x14 then (if x14 < (x0.length : Int) then (if x14 < (x1.length : Int) then (if (((rd_T53 x0 x14).f0) != ((rd_T53 x1 x14).f0)) = true then (q23z.j1 k x0 x1 x14 x13 x14 true) else (q23z.j1 k x0 x1 x14 x13 x14 ((((rd_T53 x0 x14).f1).length : Int) != (((rd_T53 x1 x14).f1).length : Int)))) else (none)) else (none)) else (none)) else (some true)
def q23z.j1 : Nat → List (S53) → List (S53) → Int → Int → Int → Bool → Option (Bool)
 | 0, _, _, _, _, _, _ => none
 | k + 1, x0, x1, x5, x13, x14, x42 => if x42 = true then (some false) else (if 0 ≤ x5 then (if x5 < (x0.length : Int) then (q23z.l1 k x0 x1 x5 x13 x14 (((rd_T53 x0 x5).f1).length : Int) 0) else (none)) else (none))
def q23z.l1 : Nat → List (S53) → List (S53) → Int → Int → Int → Int → Int → Option (Bool)
 | 0, _, _, _, _, _, _, _ => none
 | k + 1, x0, x1, x5, x13, x14, x48, x49 => if x49 < x48 then (if 0 ≤ x5 then (if x5 < (x0.length : Int) then (if 0 ≤ x49 then (if x49 < (((rd_T53 x0 x5).f1).length : Int) then (if x5 < (x1.length : Int) then (if x49 < (((rd_T53 x1 x5).f1).length : Int) then (if (!(((rd_T50 ((rd_T53 x0 x5).f1) x49).f0) == ((rd_T50 ((rd_T53 x1 x5).f1) x49).f0)) || (!(((rd_T50 ((rd_T53 x0 x5).f1) x49).f1) == ((rd_T50 ((rd_T53 x1 x5).f1) x49).f1)))) = true then (some false) else (q23z.l1 k x0 x1 x5 x13 x14 x48 (wrap64 (x49 + 1)))) else (none)) else (none)) else (none)) else (none)) else (none)) else (none)) else (q23z.l0 k x0 x1 x13 (wrap64 (x14 + 1)))
end
def q23z.f (k : Nat) (l0 : List (S53)) (l1 : List (S53)) : Option (Bool) := if (l0.length : Int) = (l1.length : Int) then (q23z.l0 k l0 l1 (l0.length : Int) 0) else (some false)
theorem q23z.mono_l : ∀ k, (∀ y0 y1 y2 y3, LeO (q23z.l0 k y0 y1 y2 y3) (q23z.l0 (k + 1) y0 y1 y2 y3)) ∧ (∀ y0 y1 y2 y3 y4 y5, LeO (q23z.j1 k y0 y1 y2 y3 y4 y5) (q23z.j1 (k + 1) y0 y1 y2 y3 y4 y5)) ∧ (∀ y0 y1 y2 y3 y4 y5 y6, LeO (q23z.l1 k y0 y1 y2 y3 y4 y5 y6) (q23z.l1 (k + 1) y0 y1 y2 y3 y4 y5 y6))
 | 0 => ⟨fun _ _ _ _ r h => by simp [q23z.l0] at h, fun _ _ _ _ _ _ r h => by simp [q23z.j1] at h, fun _ _ _ _ _ _ _ r h => by simp [q23z.l1] at h⟩
 | k + 1 => by
  obtain ⟨ih0, ih1, ih2⟩ := q23z.mono_l k
  refine ⟨?_, ?_, ?_⟩
  ·
   intro y0 y1 y2 y3
   unfold q23z.l0
   repeat' first
   | (with_reducible exact ih0 _ _ _ _)
   | (with_reducible exact ih1 _ _ _ _ _ _)
   | (with_reducible exact ih2 _ _ _ _ _ _ _)
   | (with_reducible exact LeO.refl _)
   | (with_reducible exact LeO.none _)
   | (with_reducible refine LeO.ite ?_ ?_)
   | (with_reducible refine LeO.bind ?_ (fun _ => ?_))
   | exact ih0 _ _ _ _
   | exact ih1 _ _ _ _ _ _
   | exact ih2 _ _ _ _ _ _ _
   | exact LeO.none _
   | refine LeO.ite ?_ ?_
   | refine LeO.bind ?_ (fun _ => ?_)
  ·
   intro y0 y1 y2 y3 y4 y5
   unfold q23z.j1
   repeat' first
   | (with_reducible exact ih0 _ _ _ _)
   | (with_reducible exact ih1 _ _ _ _ _ _)
   | (with_reducible exact ih2 _ _ _ _ _ _ _)
   | (with_reducible exact LeO.refl _)
   | (with_reducible exact LeO.none _)
   | (with_reducible refine LeO.ite ?_ ?_)
   | (with_reducible refine LeO.bind ?_ (fun _ => ?_))
   | exact ih0 _ _ _ _
   | exact ih1 _ _ _ _ _ _
   | exact ih2 _ _ _ _ _ _ _
   | exact LeO.none _
   | refine LeO.ite ?_ ?_
   | refine LeO.bind ?_ (fun _ => ?_)
  ·
   intro y0 y1 y2 y3 y4 y5 y6
   unfold q23z.l1
   repeat' first
   | (with_reducible exact ih0 _ _ _ _)
   | (with_reducible exact ih1 _ _ _ _ _ _)
   | (with_reducible exact ih2 _ _ _ _ _ _ _)
   | (with_reducible exact LeO.refl _)
   | (with_reducible exact LeO.none _)
   | (with_reducible refine LeO.ite ?_ ?_)
   | (with_reducible refine LeO.bind ?_ (fun _ => ?_))
   | exact ih0 _ _ _ _
   | exact ih1 _ _ _ _ _ _
   | exact ih2 _ _ _ _ _ _ _
   | exact LeO.none _
   | refine LeO.ite ?_ ?_
   | refine LeO.bind ?_ (fun _ => ?_)
theorem q23z.mono : ∀ a0 a1 k, LeO (q23z.f k a0 a1) (q23z.f (k + 1) a0 a1) := by
 intro a0 a1 k
 obtain ⟨ih0, ih1, ih2⟩ := q23z.mono_l k
 unfold q23z.f
 repeat' first
   | (with_reducible exact ih0 _ _ _ _)
   | (with_reducible exact ih1 _ _ _ _ _ _)
   | (with_reducible exact ih2 _ _ _ _ _ _ _)
   | (with_reducible exact LeO.refl _)
   | (with_reducible exact LeO.none _)
   | (with_reducible refine LeO.ite ?_ ?_)
   | (with_reducible refine LeO.bind ?_ (fun _ => ?_))
   | exact ih0 _ _ _ _
   | exact ih1 _ _ _ _ _ _
   | exact ih2 _ _ _ _ _ _ _
   | exact LeO.none _
   | refine LeO.ite ?_ ?_
   | refine LeO.bind ?_ (fun _ => ?_)
set_option maxHeartbeats 8000000 in
set_option maxRecDepth 100000 in
theorem q23z.calls (k : Nat) (A0 : Option Addr) (c0 : Nat) (l0 : List (S53)) (A1 : Option Addr) (c1 : Nat) (l1 : List (S53)) (r : Bool) (w : World) (hr0 : Kd.C k53 w A0 l0.length l0) (hc0 : l0.length ≤ c0) (hr1 : Kd.C k53 w A1 l1.length l1) (hc1 : l1.length ≤ c1) (h : q23z.f k l0 l1 = some r) :
  Calls Try.prog 38 #[.slice A0 l0.length c0, .slice A1 l1.length c1] w fun e w' => e = .returned (.bool r) ∧ Drawn0 w w' := by
 have hu50 := Try.underlying50
 have HR0 := Aside0.mk hr0
 have HC0 := Aside0.mk hc0
 clear hr0 hc0
 have HR1 := Aside0.mk hr1
 have HC1 := Aside0.mk hc1
 clear hr1 hc1
 have H : (if (l0.length : Int) = (l1.length : Int) then (q23z.l0 k l0 l1 (l0.length : Int) 0) else (some false)) = some r := h
 clear h
 by_cases c3 : (l0.length : Int) = (l1.length : Int)
 ·
  rw [if_pos c3] at H
  have c3b0 : ((l0.length : Int) == (l1.length : Int)) = true := beq_iff_eq.mpr c3
  have c3b1 : ((l0.length : Int) != (l1.length : Int)) = false := bne_eq_false_iff_eq.mpr c3
  have c3b2 : (l0.length == l1.length) = true := by first | simpa using c3 | (simp at c3 ⊢; omega)
  clear c3
  have H' := Aside0.mk H
  clear H
  go_enter Try.func38, Try.ntmps38
  go_wp2
  repeat (go_quiet (fail); try go_wp2)
  go_loopg [14] k (fun kq v14 w' => ∃ (x14_1 : Int), v14 = .int .i64 x14_1 ∧ Aside0 (q23z.l0 kq l0 l1 (l0.length : Int) x14_1 = some r) ∧ Aside0 (kq ≤ k) ∧ Drawn0 w w')
  case atStart => exact ⟨(0), (by first | rfl | (simp; done) | (simp [*]; done)), H', ⟨Nat.le_refl _⟩, by repeat (first | exact Drawn0.refl _ | apply Drawn0.step)⟩
  case round =>
   clear H'
   try clear c1
   try clear p2
   try clear c3
   try clear c3b0
   try clear c3b1
   try clear c3b2
   obtain ⟨x14_1, rfl, HA, HK1, ⟨m1, rfl⟩⟩ := hrel
   cases gk with
   | zero => exact absurd HA.out (by simp [q23z.l0])
   | succ k1 =>
    have H := HA.out
    clear HA
    simp only [q23z.l0] at H
    by_cases c4 : x14_1 < (l0.length : Int)
    ·
     rw [if_pos c4] at H
     have c4b0 : decide (x14_1 < (l0.length : Int)) = true := decide_eq_true c4
     clear c4
     have HC5 := Aside0.mk H
     clear H
     go_upto_region 6 with (fail)
     repeat (go_quiet (fail); go_upto_region 6 with (fail))
     go_cut [42] (fun v42 wc => ∃ (kq : Nat) (x42_4 : Bool), v42 = .bool x42_4 ∧ Aside0 (q23z.j1 kq l0 l1 x14_1 (l0.length : Int) x14_1 x42_4 = some r) ∧ Aside0 (kq ≤ k1) ∧ Drawn0 w wc)
     case first =>
      have H := HC5.out
      clear HC5
      by_cases c6 : 0 ≤ x14_1
      ·
       rw [if_pos c6] at H
       have c6b0 : decide (0 ≤ x14_1) = true := decide_eq_true c6
       clear c6
       (first | rw [c6b0] | (simp only [i64_w, i32_w, IntKind.wrap_u32]; rw [c6b0]) | skip)
       by_cases c7 : x14_1 < (l0.length : Int)
       ·
        rw [if_pos c7] at H
        have c7b0 : decide (x14_1 < (l0.length : Int)) = true := decide_eq_true c7
        clear c7
        by_cases c8 : x14_1 < (l1.length : Int)
        ·
         rw [if_pos c8] at H
         have c8b0 : decide (x14_1 < (l1.length : Int)) = true := decide_eq_true c8
         clear c8
         by_cases c9 : (((rd_T53 l0 x14_1).f0) != ((rd_T53 l1 x14_1).f0)) = true
         ·
          rw [if_pos c9] at H
          have c9b0 : (((rd_T53 l0 x14_1).f0) != ((rd_T53 l1 x14_1).f0)) = true := c9
          (try (have c9b1 : decide (((rd_T53 l0 x14_1).f0) = ((rd_T53 l1 x14_1).f0)) = false := by simpa using c9))
          (try (have c9b2 : (((rd_T53 l0 x14_1).f0) == ((rd_T53 l1 x14_1).f0)) = false := by simpa using c9))
          (try (have c9b3 : ¬ (((rd_T53 l0 x14_1).f0) = ((rd_T53 l1 x14_1).f0)) := by simpa using c9))
          clear c9
          have H' := Aside0.mk H
          clear H
          have p1 : 0 ≤ (x14_1 : Int) := of_decide_eq_true (by first | (with_reducible assumption) | assumption)
          have q1 : x14_1 < (l0.length : Int) := of_decide_eq_true (by first | (with_reducible assumption) | assumption)
          obtain ⟨ad1, A1_1, c1_1, e1, hx1_0, hx1_1, hl1_1, hi1_1⟩ := at_T53 HR0.out x14_1 p1 q1
          cases e1
          have HR1_1 := Aside0.mk hi1_1
          have HC1_1 := Aside0.mk hl1_1
          clear hi1_1 hl1_1
          replace p1 := eq_true p1
          replace q1 := eq_true q1
          have p2 : 0 ≤ (x14_1 : Int) := of_decide_eq_true (by first | (with_reducible assumption) | assumption)
          have q2 : x14_1 < (l1.length : Int) := of_decide_eq_true (by first | (with_reducible assumption) | assumption)
          obtain ⟨ad2, A2_1, c2_1, e2, hx2_0, hx2_1, hl2_1, hi2_1⟩ := at_T53 HR1.out x14_1 p2 q2
          cases e2
          have HR2_1 := Aside0.mk hi2_1
          have HC2_1 := Aside0.mk hl2_1
          clear hi2_1 hl2_1
          replace p2 := eq_true p2
          replace q2 := eq_true q2
          go_wp2
          repeat (go_quiet (fail); try go_wp2)
          go_meet
          case rel => exact ⟨_, (true), (by first | rfl | (simp; done) | (simp [*]; done)), H', ⟨by have := HK1.out; first | omega | exact Nat.le_refl _⟩, by repeat (first | exact Drawn0.refl _ | apply Drawn0.step)⟩
         ·
          rw [if_neg c9] at H
          have c9b0 : (((rd_T53 l0 x14_1).f0) != ((rd_T53 l1 x14_1).f0)) = false := by simpa using c9
          (try (have c9b1 : decide (((rd_T53 l0 x14_1).f0) = ((rd_T53 l1 x14_1).f0)) = true := by simpa using c9))
          (try (have c9b2 : (((rd_T53 l0 x14_1).f0) == ((rd_T53 l1 x14_1).f0)) = true := by simpa using c9))
          clear c9
          have H' := Aside0.mk H
          clear H
          have p1 : 0 ≤ (x14_1 : Int) := of_decide_eq_true (by first | (with_reducible assumption) | assumption)
          have q1 : x14_1 < (l0.length : Int) := of_decide_eq_true (by first | (with_reducible assumption) | assumption)
          obtain ⟨ad1, A1_1, c1_1, e1, hx1_0, hx1_1, hl1_1, hi1_1⟩ := at_T53 HR0.out x14_1 p1 q1
          cases e1
          have HR1_1 := Aside0.mk hi1_1
          have HC1_1 := Aside0.mk hl1_1
          clear hi1_1 hl1_1
          replace p1 := eq_true p1
          replace q1 := eq_true q1
          have p2 : 0 ≤ (x14_1 : Int) := of_decide_eq_true (by first | (with_reducible assumption) | assumption)
          have q2 : x14_1 < (l1.length : Int) := of_decide_eq_true (by first | (with_reducible assumption) | assumption)
          obtain ⟨ad2, A2_1, c2_1, e2, hx2_0, hx2_1, hl2_1, hi2_1⟩ := at_T53 HR1.out x14_1 p2 q2
          cases e2
          have HR2_1 := Aside0.mk hi2_1
          have HC2_1 := Aside0.mk hl2_1
          clear hi2_1 hl2_1
          replace p2 := eq_true p2
          replace q2 := eq_true q2
          have p3 : 0 ≤ (x14_1 : Int) := of_decide_eq_true (by first | (with_reducible assumption) | assumption)
          have q3 : x14_1 < (l0.length : Int) := of_decide_eq_true (by first | (with_reducible assumption) | assumption)
          obtain ⟨ad3, A3_1, c3_1, e3, hx3_0, hx3_1, hl3_1, hi3_1⟩ := at_T53 HR0.out x14_1 p3 q3
          obtain rfl : ad1 = ad3 := (by injection e3)
          have HR3_1 := Aside0.mk hi3_1
          have HC3_1 := Aside0.mk hl3_1
          clear hi3_1 hl3_1
          replace p3 := eq_true p3
          replace q3 := eq_true q3
          have ea_ := Option.some.inj (hx1_1.symm.trans hx3_1)
          injection ea_ with ea_ en_ ec_
          subst ea_
          subst ec_
          clear en_
          have p4 : 0 ≤ (x14_1 : Int) := of_decide_eq_true (by first | (with_reducible assumption) | assumption)
          have q4 : x14_1 < (l1.length : Int) := of_decide_eq_true (by first | (with_reducible assumption) | assumption)
          obtain ⟨ad4, A4_1, c4_1, e4, hx4_0, hx4_1, hl4_1, hi4_1⟩ := at_T53 HR1.out x14_1 p4 q4
          obtain rfl : ad2 = ad4 := (by injection e4)
          have HR4_1 := Aside0.mk hi4_1
          have HC4_1 := Aside0.mk hl4_1
          clear hi4_1 hl4_1
          replace p4 := eq_true p4
          replace q4 := eq_true q4
          have ea_ := Option.some.inj (hx2_1.symm.trans hx4_1)
          injection ea_ with ea_ en_ ec_
          subst ea_
          subst ec_
          clear en_
          go_wp2
          repeat (go_quiet (fail); try go_wp2)
          go_meet
          case rel => exact ⟨_, (((((rd_T53 l0 x14_1).f1).length : Int) != (((rd_T53 l1 x14_1).f1).length : Int))), (by first | rfl | (simp; done) | (simp [*]; done)), H', ⟨by have := HK1.out; first | omega | exact Nat.le_refl _⟩, by repeat (first | exact Drawn0.refl _ | apply Drawn0.step)⟩
        ·
         rw [if_neg c8] at H
         exact absurd H (by simp)
       ·
        rw [if_neg c7] at H
        exact absurd H (by simp)
      ·
       rw [if_neg c6] at H
       exact absurd H (by simp)
     case rest =>
      clear HC5
      try clear c1
      try clear p1
      try clear q1
      try clear hx1
      try clear c2
      try clear p2
      try clear q2
      try clear hx2
      try clear c3
      try clear c3b0
      try clear c3b1
      try clear c3b2
      try clear p3
      try clear q3
      try clear hx3
      try clear c4
      try clear c4b0
      try clear p4
      try clear q4
      try clear hx4
      try clear c6
      try clear c6b0
      try clear c7
      try clear c7b0
      try clear c8
      try clear c8b0
      try clear c9
      try clear c9b0
      try clear c9b1
      try clear c9b2
      try clear hx1_0
      try clear hx1_1
      try clear hx2_0
      try clear hx2_1
      try clear hx3_0
      try clear hx3_1
      try clear hx4_0
      try clear hx4_1
      try clear p1
      try clear p2
      try clear p3
      try clear p4
      try clear q1
      try clear q2
      try clear q3
      try clear q4
      obtain ⟨kq, x42_4, rfl, HA, HJ4, ⟨mc4, rfl⟩⟩ := hcut
      cases kq with
      | zero => exact absurd HA.out (by simp [q23z.j1])
      | succ kj4 =>
       have H := HA.out
       clear HA
       simp only [q23z.j1] at H
       by_cases c10 : x42_4 = true
       ·
        subst c10
        have H1 : (some false) = some r := by rw [if_pos rfl] at H; exact H
        clear H
        have H := H1
        clear H1
        obtain rfl := Option.some.inj H
        go_wp2
        repeat (go_quiet (fail); try go_wp2)
        go_ret
        exact ⟨by first | rfl | (simp; done) | (simp [*]; done), by repeat (first | exact Drawn0.refl _ | apply Drawn0.step)⟩
       ·
        replace c10 := Bool.eq_false_iff.mpr c10
        subst c10
        have H1 : (if 0 ≤ x14_1 then (if x14_1 < (l0.length : Int) then (q23z.l1 kj4 l0 l1 x14_1 (l0.length : Int) x14_1 (((rd_T53 l0 x14_1).f1).length : Int) 0) else (none)) else (none)) = some r := by rw [if_neg (show ¬ (false = true) by decide)] at H; exact H
        clear H
        have H := H1
        clear H1
        by_cases c11 : 0 ≤ x14_1
        ·
         rw [if_pos c11] at H
         have c11b0 : decide (0 ≤ x14_1) = true := decide_eq_true c11
         clear c11
         by_cases c12 : x14_1 < (l0.length : Int)
         ·
          rw [if_pos c12] at H
          have c12b0 : decide (x14_1 < (l0.length : Int)) = true := decide_eq_true c12
          clear c12
          have H' := Aside0.mk H
          clear H
          have p5 : 0 ≤ (x14_1 : Int) := of_decide_eq_true (by first | (with_reducible assumption) | assumption)
          have q5 : x14_1 < (l0.length : Int) := of_decide_eq_true (by first | (with_reducible assumption) | assumption)
          obtain ⟨ad5, A5_1, c5_1, e5, hx5_0, hx5_1, hl5_1, hi5_1⟩ := at_T53 HR0.out x14_1 p5 q5
          cases e5
          have HR5_1 := Aside0.mk hi5_1
          have HC5_1 := Aside0.mk hl5_1
          clear hi5_1 hl5_1
          replace p5 := eq_true p5
          replace q5 := eq_true q5
          go_wp2
          repeat (go_quiet (fail); try go_wp2)
          go_loopg [49] kj4 (fun kq v49 w' => ∃ (x49_3 : Int), v49 = .int .i64 x49_3 ∧ Aside0 (q23z.l1 kq l0 l1 x14_1 (l0.length : Int) x14_1 (((rd_T53 l0 x14_1).f1).length : Int) x49_3 = some r) ∧ Aside0 (kq ≤ kj4) ∧ Drawn0 w w')
          case atStart => exact ⟨(0), (by first | rfl | (simp; done) | (simp [*]; done)), H', ⟨Nat.le_refl _⟩, by repeat (first | exact Drawn0.refl _ | apply Drawn0.step)⟩
          case round =>
           clear H'
           try clear c1
           try clear p1
           try clear q1
           try clear hx1
           try clear c2
           try clear p2
           try clear q2
           try clear hx2
           try clear c3
           try clear c3b0
           try clear c3b1
           try clear c3b2
           try clear p3
           try clear q3
           try clear hx3
           try clear c4
           try clear c4b0
           try clear p4
           try clear q4
           try clear hx4
           try clear c5
           try clear p5
           try clear q5
           try clear hx5
           try clear c6
           try clear c6b0
           try clear c7
           try clear c7b0
           try clear c8
           try clear c8b0
           try clear c9
           try clear c9b0
           try clear c9b1
           try clear c9b2
           try clear c10
           try clear c11
           try clear c11b0
           try clear c12
           try clear c12b0
           try clear hx1_0
           try clear hx1_1
           try clear hx2_0
           try clear hx2_1
           try clear hx3_0
           try clear hx3_1
           try clear hx4_0
           try clear hx4_1
           try clear hx5_0
           try clear hx5_1
           try clear p1
           try clear p2
           try clear p3
           try clear p4
           try clear p5
           try clear q1
           try clear q2
           try clear q3
           try clear q4
           try clear q5
           obtain ⟨x49_3, rfl, HA, HK3, ⟨m3, rfl⟩⟩ := hrel
           cases gk with
           | zero => exact absurd HA.out (by simp [q23z.l1])
           | succ k3 =>
            have H := HA.out
            clear HA
            simp only [q23z.l1] at H
            by_cases c13 : x49_3 < (((rd_T53 l0 x14_1).f1).length : Int)
            ·
             rw [if_pos c13] at H
             have c13b0 : decide (x49_3 < (((rd_T53 l0 x14_1).f1).length : Int)) = true := decide_eq_true c13
             clear c13
             by_cases c14 : 0 ≤ x14_1
             ·
              rw [if_pos c14] at H
              have c14b0 : decide (0 ≤ x14_1) = true := decide_eq_true c14
              clear c14
              by_cases c15 : x14_1 < (l0.length : Int)
              ·
               rw [if_pos c15] at H
               have c15b0 : decide (x14_1 < (l0.length : Int)) = true := decide_eq_true c15
               clear c15
               by_cases c16 : 0 ≤ x49_3
               ·
                rw [if_pos c16] at H
                have c16b0 : decide (0 ≤ x49_3) = true := decide_eq_true c16
                clear c16
                by_cases c17 : x49_3 < (((rd_T53 l0 x14_1).f1).length : Int)
                ·
                 rw [if_pos c17] at H
                 have c17b0 : decide (x49_3 < (((rd_T53 l0 x14_1).f1).length : Int)) = true := decide_eq_true c17
                 clear c17
                 by_cases c18 : x14_1 < (l1.length : Int)
                 ·
                  rw [if_pos c18] at H
                  have c18b0 : decide (x14_1 < (l1.length : Int)) = true := decide_eq_true c18
                  clear c18
                  by_cases c19 : x49_3 < (((rd_T53 l1 x14_1).f1).length : Int)
                  ·
                   rw [if_pos c19] at H
                   have c19b0 : decide (x49_3 < (((rd_T53 l1 x14_1).f1).length : Int)) = true := decide_eq_true c19
                   clear c19
                   by_cases c20 : (!(((rd_T50 ((rd_T53 l0 x14_1).f1) x49_3).f0) == ((rd_T50 ((rd_T53 l1 x14_1).f1) x49_3).f0)) || (!(((rd_T50 ((rd_T53 l0 x14_1).f1) x49_3).f1) == ((rd_T50 ((rd_T53 l1 x14_1).f1) x49_3).f1)))) = true
                   ·
                    rw [if_pos c20] at H
                    have c20b0 : (!(((rd_T50 ((rd_T53 l0 x14_1).f1) x49_3).f0) == ((rd_T50 ((rd_T53 l1 x14_1).f1) x49_3).f0)) || (!(((rd_T50 ((rd_T53 l0 x14_1).f1) x49_3).f1) == ((rd_T50 ((rd_T53 l1 x14_1).f1) x49_3).f1)))) = true := c20
                    clear c20
                    obtain rfl := Option.some.inj H
                    have p6 : 0 ≤ (x14_1 : Int) := of_decide_eq_true (by first | (with_reducible assumption) | assumption)
                    have q6 : x14_1 < (l0.length : Int) := of_decide_eq_true (by first | (with_reducible assumption) | assumption)
                    obtain ⟨ad6, A6_1, c6_1, e6, hx6_0, hx6_1, hl6_1, hi6_1⟩ := at_T53 HR0.out x14_1 p6 q6
                    obtain rfl : ad5 = ad6 := (by injection e6)
                    have HR6_1 := Aside0.mk hi6_1
                    have HC6_1 := Aside0.mk hl6_1
                    clear hi6_1 hl6_1
                    replace p6 := eq_true p6
                    replace q6 := eq_true q6
                    have p7 : 0 ≤ (x49_3 : Int) := of_decide_eq_true (by first | (with_reducible assumption) | assumption)
                    have q7 : x49_3 < (((rd_T53 l0 x14_1).f1).length : Int) := of_decide_eq_true (by first | (with_reducible assumption) | assumption)
                    obtain ⟨ad7, e7, hx7_0, hx7_1⟩ := at_T50 HR6_1.out x49_3 p7 q7
                    cases e7
                    replace p7 := eq_true p7
                    replace q7 := eq_true q7
                    have p8 : 0 ≤ (x14_1 : Int) := of_decide_eq_true (by first | (with_reducible assumption) | assumption)
                    have q8 : x14_1 < (l1.length : Int) := of_decide_eq_true (by first | (with_reducible assumption) | assumption)
                    obtain ⟨ad8, A8_1, c8_1, e8, hx8_0, hx8_1, hl8_1, hi8_1⟩ := at_T53 HR1.out x14_1 p8 q8
                    cases e8
                    have HR8_1 := Aside0.mk hi8_1
                    have HC8_1 := Aside0.mk hl8_1
                    clear hi8_1 hl8_1
                    replace p8 := eq_true p8
                    replace q8 := eq_true q8
                    have p9 : 0 ≤ (x49_3 : Int) := of_decide_eq_true (by first | (with_reducible assumption) | assumption)
                    have q9 : x49_3 < (((rd_T53 l1 x14_1).f1).length : Int) := of_decide_eq_true (by first | (with_reducible assumption) | assumption)
                    obtain ⟨ad9, e9, hx9_0, hx9_1⟩ := at_T50 HR8_1.out x49_3 p9 q9
                    cases e9
                    replace p9 := eq_true p9
                    replace q9 := eq_true q9
                    go_wp2
                    repeat (go_quiet (fail); try go_wp2)
                    go_ret
                    exact ⟨by first | rfl | (simp; done) | (simp [*]; done), by repeat (first | exact Drawn0.refl _ | apply Drawn0.step)⟩
                   ·
                    rw [if_neg c20] at H
                    have c20b0 : (!(((rd_T50 ((rd_T53 l0 x14_1).f1) x49_3).f0) == ((rd_T50 ((rd_T53 l1 x14_1).f1) x49_3).f0)) || (!(((rd_T50 ((rd_T53 l0 x14_1).f1) x49_3).f1) == ((rd_T50 ((rd_T53 l1 x14_1).f1) x49_3).f1)))) = false := by simpa using c20
                    clear c20
                    have H' := Aside0.mk H
                    clear H
                    have p6 : 0 ≤ (x14_1 : Int) := of_decide_eq_true (by first | (with_reducible assumption) | assumption)
                    have q6 : x14_1 < (l0.length : Int) := of_decide_eq_true (by first | (with_reducible assumption) | assumption)
                    obtain ⟨ad6, A6_1, c6_1, e6, hx6_0, hx6_1, hl6_1, hi6_1⟩ := at_T53 HR0.out x14_1 p6 q6
                    obtain rfl : ad5 = ad6 := (by injection e6)
                    have HR6_1 := Aside0.mk hi6_1
                    have HC6_1 := Aside0.mk hl6_1
                    clear hi6_1 hl6_1
                    replace p6 := eq_true p6
                    replace q6 := eq_true q6
                    have p7 : 0 ≤ (x49_3 : Int) := of_decide_eq_true (by first | (with_reducible assumption) | assumption)
                    have q7 : x49_3 < (((rd_T53 l0 x14_1).f1).length : Int) := of_decide_eq_true (by first | (with_reducible assumption) | assumption)
                    obtain ⟨ad7, e7, hx7_0, hx7_1⟩ := at_T50 HR6_1.out x49_3 p7 q7
                    cases e7
                    replace p7 := eq_true p7
                    replace q7 := eq_true q7
                    have p8 : 0 ≤ (x14_1 : Int) := of_decide_eq_true (by first | (with_reducible assumption) | assumption)
                    have q8 : x14_1 < (l1.length : Int) := of_decide_eq_true (by first | (with_reducible assumption) | assumption)
                    obtain ⟨ad8, A8_1, c8_1, e8, hx8_0, hx8_1, hl8_1, hi8_1⟩ := at_T53 HR1.out x14_1 p8 q8
                    cases e8
                    have HR8_1 := Aside0.mk hi8_1
                    have HC8_1 := Aside0.mk hl8_1
                    clear hi8_1 hl8_1
                    replace p8 := eq_true p8
                    replace q8 := eq_true q8
                    have p9 : 0 ≤ (x49_3 : Int) := of_decide_eq_true (by first | (with_reducible assumption) | assumption)
                    have q9 : x49_3 < (((rd_T53 l1 x14_1).f1).length : Int) := of_decide_eq_true (by first | (with_reducible assumption) | assumption)
                    obtain ⟨ad9, e9, hx9_0, hx9_1⟩ := at_T50 HR8_1.out x49_3 p9 q9
                    cases e9
                    replace p9 := eq_true p9
                    replace q9 := eq_true q9
                    go_wp2
                    repeat (go_quiet (fail); try go_wp2)
                    go_roundg k3
                    case measure => have := HK1.out; have := HJ4.out; have := HK3.out; omega
                    case rel => exact ⟨(wrap64 (x49_3 + 1)), (by first | rfl | (simp; done) | (simp [*]; done)), H', ⟨by have := HK1.out; have := HJ4.out; have := HK3.out; omega⟩, by repeat (first | exact Drawn0.refl _ | apply Drawn0.step)⟩
                  ·
                   rw [if_neg c19] at H
                   exact absurd H (by simp)
                 ·
                  rw [if_neg c18] at H
                  exact absurd H (by simp)
                ·
                 rw [if_neg c17] at H
                 exact absurd H (by simp)
               ·
                rw [if_neg c16] at H
                exact absurd H (by simp)
              ·
               rw [if_neg c15] at H
               exact absurd H (by simp)
             ·
              rw [if_neg c14] at H
              exact absurd H (by simp)
            ·
             rw [if_neg c13] at H
             have c13b0 : decide (x49_3 < (((rd_T53 l0 x14_1).f1).length : Int)) = false := decide_eq_false c13
             clear c13
             have H' := Aside0.mk H
             clear H
             go_wp2
             repeat (go_quiet (fail); try go_wp2)
             go_roundg k3
             case measure => have := HK1.out; have := HJ4.out; have := HK3.out; omega
             case rel => exact ⟨(wrap64 (x14_1 + 1)), (by first | rfl | (simp; done) | (simp [*]; done)), H', ⟨by have := HK1.out; have := HJ4.out; have := HK3.out; omega⟩, by repeat (first | exact Drawn0.refl _ | apply Drawn0.step)⟩
         ·
          rw [if_neg c12] at H
          exact absurd H (by simp)
        ·
         rw [if_neg c11] at H
         exact absurd H (by simp)
    ·
     rw [if_neg c4] at H
     have c4b0 : decide (x14_1 < (l0.length : Int)) = false := decide_eq_false c4
     clear c4
     obtain rfl := Option.some.inj H
     go_wp2
     repeat (go_quiet (fail); try go_wp2)
     go_ret
     exact ⟨by first | rfl | (simp; done) | (simp [*]; done), by repeat (first | exact Drawn0.refl _ | apply Drawn0.step)⟩
 ·
  rw [if_neg c3] at H
  have c3b0 : ((l0.length : Int) == (l1.length : Int)) = false := beq_eq_false_iff_ne.mpr c3
  have c3b1 : ((l0.length : Int) != (l1.length : Int)) = true := bne_iff_ne.mpr c3
  have c3b2 : (l0.length == l1.length) = false := by first | simpa using c3 | (simp at c3 ⊢; omega)
  obtain rfl := Option.some.inj H
  go_enter Try.func38, Try.ntmps38
  go_wp2
  repeat (go_quiet (fail); try go_wp2)
  go_ret
  exact ⟨by first | rfl | (simp; done) | (simp [*]; done), by repeat (first | exact Drawn0.refl _ | apply Drawn0.step)⟩

/-! ### dragomanref12_Same: function 18 -/
def q24z.f (k : Nat) (a0_0 : Int) (a0_1 : Int) (l0_2 : List Int) (l0_3 : List (S53)) (a1_0 : Int) (a1_1 : Int) (l1_2 : List Int) (l1_3 : List (S53)) : Option (Bool) := if a0_0 = a1_0 then (if a0_1 = a1_1 then ((q22z.f k l0_2 l1_2).bind fun t3 => (if t3 = true then ((q23z.f k l0_3 l1_3).bind fun t4 => (some t4)) else (some false))) else (some false)) else (some false)
theorem q24z.mono : ∀ a0 a1 a2 a3 a4 a5 a6 a7 k, LeO (q24z.f k a0 a1 a2 a3 a4 a5 a6 a7) (q24z.f (k + 1) a0 a1 a2 a3 a4 a5 a6 a7) := by
 intro a0 a1 a2 a3 a4 a5 a6 a7 k
 unfold q24z.f
 repeat' first
   | (with_reducible exact q22z.mono _ _ _)
   | (with_reducible exact q23z.mono _ _ _)
   | (with_reducible exact LeO.refl _)
   | (with_reducible exact LeO.none _)
   | (with_reducible refine LeO.ite ?_ ?_)
   | (with_reducible refine LeO.bind ?_ (fun _ => ?_))
   | exact q22z.mono _ _ _
   | exact q23z.mono _ _ _
   | exact LeO.none _
   | refine LeO.ite ?_ ?_
   | refine LeO.bind ?_ (fun _ => ?_)
set_option maxHeartbeats 8000000 in
set_option maxRecDepth 100000 in
theorem q24z.calls (k : Nat) (a0_0 : Int) (a0_1 : Int) (A0_2 : Option Addr) (c0_2 : Nat) (l0_2 : List Int) (A0_3 : Option Addr) (c0_3 : Nat) (l0_3 : List (S53)) (a1_0 : Int) (a1_1 : Int) (A1_2 : Option Addr) (c1_2 : Nat) (l1_2 : List Int) (A1_3 : Option Addr) (c1_3 : Nat) (l1_3 : List (S53)) (r : Bool) (w : World) (hr0_2 : Kd.C (Kd.int .u32) w A0_2 l0_2.length l0_2) (hc0_2 : l0_2.length ≤ c0_2) (hr0_3 : Kd.C k53 w A0_3 l0_3.length l0_3) (hc0_3 : l0_3.length ≤ c0_3) (hr1_2 : Kd.C (Kd.int .u32) w A1_2 l1_2.length l1_2) (hc1_2 : l1_2.length ≤ c1_2) (hr1_3 : Kd.C k53 w A1_3 l1_3.length l1_3) (hc1_3 : l1_3.length ≤ c1_3) (h : q24z.f k a0_0 a0_1 l0_2 l0_3 a1_0 a1_1 l1_2 l1_3 = some r) :
  Calls Try.prog 18 #[.agg #[.int .i64 a0_0, .int .u32 a0_1, .slice A0_2 l0_2.length c0_2, .slice A0_3 l0_3.length c0_3], .agg #[.int .i64 a1_0, .int .u32 a1_1, .slice A1_2 l1_2.length c1_2, .slice A1_3 l1_3.length c1_3]] w fun e w' => e = .returned (.bool r) ∧ Below w.heap.size w w' := by
 have hu26 := Try.underlying26
 have HR0_2 := Aside0.mk hr0_2
 have HC0_2 := Aside0.mk hc0_2
 clear hr0_2 hc0_2
 have HR0_3 := Aside0.mk hr0_3
 have HC0_3 := Aside0.mk hc0_3
 clear hr0_3 hc0_3
 have HR1_2 := Aside0.mk hr1_2
 have HC1_2 := Aside0.mk hc1_2
 clear hr1_2 hc1_2
 have HR1_3 := Aside0.mk hr1_3
 have HC1_3 := Aside0.mk hc1_3
 clear hr1_3 hc1_3
 have HB := Aside0.mk (Below.refl w.heap.size w)
 have H : (if a0_0 = a1_0 then (if a0_1 = a1_1 then ((q22z.f k l0_2 l1_2).bind fun t3 => (if t3 = true then ((q23z.f k l0_3 l1_3).bind fun t4 => (some t4)) else (some false))) else (some false)) else (some false)) = some r := h
 clear h
 by_cases c3 : a0_0 = a1_0
 ·
  rw [if_pos c3] at H
  have c3b0 : (a0_0 == a1_0) = true := beq_iff_eq.mpr c3
  have c3b1 : (a0_0 != a1_0) = false := bne_eq_false_iff_eq.mpr c3
  clear c3
  by_cases c4 : a0_1 = a1_1
  ·
   rw [if_pos c4] at H
   have c4b0 : (a0_1 == a1_1) = true := beq_iff_eq.mpr c4
   have c4b1 : (a0_1 != a1_1) = false := bne_eq_false_iff_eq.mpr c4
   clear c4
   replace H := Option.bind_eq_some_iff.mp H
   obtain ⟨t3, A50, H⟩ := H
   replace H : (if t3 = true then ((q23z.f k l0_3 l1_3).bind fun t4 => (some t4)) else (some false)) = some r := H
   have A5 := Aside0.mk A50
   clear A50
   by_cases c6 : t3 = true
   ·
    subst c6
    have H1 : ((q23z.f k l0_3 l1_3).bind fun t4 => (some t4)) = some r := by rw [if_pos rfl] at H; exact H
    clear H
    have H := H1
    clear H1
    replace H := Option.bind_eq_some_iff.mp H
    obtain ⟨t4, A70, H⟩ := H
    replace H : (some t4) = some r := H
    have A7 := Aside0.mk A70
    clear A70
    obtain rfl := Option.some.inj H
    go_enter Try.func18, Try.ntmps18
    go_wp2_with (first | ((with_reducible refine gate_dst (N := 2) rfl ?_); refine box_event ?hg (N := 2) ?hd (cs := #[.int .i64 a0_0, .int .u32 a0_1, .slice A0_2 l0_2.length c0_2, .slice A0_3 l0_3.length c0_3]) (t := 26) ?hr ?_; (case hd => rfl); (case hg => rfl); (case hr => first | (go_simp; done) | (go_simp; rfl)); intro gb1 hg w8 hbox hb; have BK1 := Aside0.mk (hbox); have GW1 := gwS hg HB; have GE1 := gwS hg HB; replace HB := hbS HB hb; clear hb hbox hg) | ((with_reducible refine gate_dst (N := 3) rfl ?_); refine box_event ?hg (N := 3) ?hd (cs := #[.int .i64 a1_0, .int .u32 a1_1, .slice A1_2 l1_2.length c1_2, .slice A1_3 l1_3.length c1_3]) (t := 26) ?hr ?_; (case hd => rfl); (case hg => rfl); (case hr => first | (go_simp; done) | (go_simp; rfl)); intro gb2 hg w9 hbox hb; have BK2 := Aside0.mk (hbox); have GW2 := gwS hg HB; have GE2 := gwS hg HB; have NB1_2 := nbL hg BK1; have NB2_1 := nbG hg BK1; replace BK1 := bkB BK1 hb; replace HB := hbS HB hb; clear hb hbox hg; have hnb10 := NB1_2.out; have hnc10 := NB2_1.out; obtain ⟨hcz11_0, hcz11_1, hcz11_2, hcz11_3, hfz11_0, hfz11_1, hfz11_2, hfz11_3⟩ := bc4 BK1; obtain ⟨hcz12_0, hcz12_1, hcz12_2, hcz12_3, hfz12_0, hfz12_1, hfz12_2, hfz12_3⟩ := bc4 BK2) | (go_at_call 20; (with_reducible refine (q22z.calls k _ _ l0_2 _ _ l1_2 true _ ?side1 ?side2 ?side3 ?side4 A5.out).mono ?_); (case side1 => repeat (first | exact (Kd.C_below HR0_2.out HB.out) | (with_reducible refine Kd.C_alloc ?_ _) | (with_reducible refine Kd.C_drewN ?_ _) | (with_reducible refine Kd.C_drew ?_))); (case side2 => exact HC0_2.out); (case side3 => repeat (first | exact (Kd.C_below HR1_2.out HB.out) | (with_reducible refine Kd.C_alloc ?_ _) | (with_reducible refine Kd.C_drewN ?_ _) | (with_reducible refine Kd.C_drew ?_))); (case side4 => exact HC1_2.out); rintro e w' ⟨rfl, ⟨nd, rfl⟩⟩) | (go_at_call 38; (with_reducible refine (q23z.calls k _ _ l0_3 _ _ l1_3 t4 _ ?side1 ?side2 ?side3 ?side4 A7.out).mono ?_); (case side1 => repeat (first | exact (Kd.C_below HR0_3.out (hbW HB)) | (with_reducible refine Kd.C_alloc ?_ _) | (with_reducible refine Kd.C_drewN ?_ _) | (with_reducible refine Kd.C_drew ?_))); (case side2 => exact HC0_3.out); (case side3 => repeat (first | exact (Kd.C_below HR1_3.out (hbW HB)) | (with_reducible refine Kd.C_alloc ?_ _) | (with_reducible refine Kd.C_drewN ?_ _) | (with_reducible refine Kd.C_drew ?_))); (case side4 => exact HC1_3.out); rintro e w' ⟨rfl, ⟨nd, rfl⟩⟩))
    go_ret
    exact ⟨by first | rfl | (simp [errW_none, errW_some] <;> rfl) | (simp [*, errW_none, errW_some] <;> rfl), hbW HB⟩
   ·
    replace c6 := Bool.eq_false_iff.mpr c6
    subst c6
    have H1 : (some false) = some r := by rw [if_neg (show ¬ (false = true) by decide)] at H; exact H
    clear H
    have H := H1
    clear H1
    obtain rfl := Option.some.inj H
    go_enter Try.func18, Try.ntmps18
    go_wp2_with (first | ((with_reducible refine gate_dst (N := 2) rfl ?_); refine box_event ?hg (N := 2) ?hd (cs := #[.int .i64 a0_0, .int .u32 a0_1, .slice A0_2 l0_2.length c0_2, .slice A0_3 l0_3.length c0_3]) (t := 26) ?hr ?_; (case hd => rfl); (case hg => rfl); (case hr => first | (go_simp; done) | (go_simp; rfl)); intro gb1 hg w13 hbox hb; have BK1 := Aside0.mk (hbox); have GW1 := gwS hg HB; have GE1 := gwS hg HB; replace HB := hbS HB hb; clear hb hbox hg) | ((with_reducible refine gate_dst (N := 3) rfl ?_); refine box_event ?hg (N := 3) ?hd (cs := #[.int .i64 a1_0, .int .u32 a1_1, .slice A1_2 l1_2.length c1_2, .slice A1_3 l1_3.length c1_3]) (t := 26) ?hr ?_; (case hd => rfl); (case hg => rfl); (case hr => first | (go_simp; done) | (go_simp; rfl)); intro gb2 hg w14 hbox hb; have BK2 := Aside0.mk (hbox); have GW2 := gwS hg HB; have GE2 := gwS hg HB; have NB1_2 := nbL hg BK1; have NB2_1 := nbG hg BK1; replace BK1 := bkB BK1 hb; replace HB := hbS HB hb; clear hb hbox hg; have hnb15 := NB1_2.out; have hnc15 := NB2_1.out; obtain ⟨hcz16_0, hcz16_1, hcz16_2, hcz16_3, hfz16_0, hfz16_1, hfz16_2, hfz16_3⟩ := bc4 BK1; obtain ⟨hcz17_0, hcz17_1, hcz17_2, hcz17_3, hfz17_0, hfz17_1, hfz17_2, hfz17_3⟩ := bc4 BK2) | (go_at_call 20; (with_reducible refine (q22z.calls k _ _ l0_2 _ _ l1_2 false _ ?side1 ?side2 ?side3 ?side4 A5.out).mono ?_); (case side1 => repeat (first | exact (Kd.C_below HR0_2.out HB.out) | (with_reducible refine Kd.C_alloc ?_ _) | (with_reducible refine Kd.C_drewN ?_ _) | (with_reducible refine Kd.C_drew ?_))); (case side2 => exact HC0_2.out); (case side3 => repeat (first | exact (Kd.C_below HR1_2.out HB.out) | (with_reducible refine Kd.C_alloc ?_ _) | (with_reducible refine Kd.C_drewN ?_ _) | (with_reducible refine Kd.C_drew ?_))); (case side4 => exact HC1_2.out); rintro e w' ⟨rfl, ⟨nd, rfl⟩⟩))
    go_ret
    exact ⟨by first | rfl | (simp [errW_none, errW_some] <;> rfl) | (simp [*, errW_none, errW_some] <;> rfl), hbW HB⟩
  ·
   rw [if_neg c4] at H
   have c4b0 : (a0_1 == a1_1) = false := beq_eq_false_iff_ne.mpr c4
   have c4b1 : (a0_1 != a1_1) = true := bne_iff_ne.mpr c4
   obtain rfl := Option.some.inj H
   go_enter Try.func18, Try.ntmps18
   go_wp2_with (first | ((with_reducible refine gate_dst (N := 2) rfl ?_); refine box_event ?hg (N := 2) ?hd (cs := #[.int .i64 a0_0, .int .u32 a0_1, .slice A0_2 l0_2.length c0_2, .slice A0_3 l0_3.length c0_3]) (t := 26) ?hr ?_; (case hd => rfl); (case hg => rfl); (case hr => first | (go_simp; done) | (go_simp; rfl)); intro gb1 hg w18 hbox hb; have BK1 := Aside0.mk (hbox); have GW1 := gwS hg HB; have GE1 := gwS hg HB; replace HB := hbS HB hb; clear hb hbox hg) | ((with_reducible refine gate_dst (N := 3) rfl ?_); refine box_event ?hg (N := 3) ?hd (cs := #[.int .i64 a1_0, .int .u32 a1_1, .slice A1_2 l1_2.length c1_2, .slice A1_3 l1_3.length c1_3]) (t := 26) ?hr ?_; (case hd => rfl); (case hg => rfl); (case hr => first | (go_simp; done) | (go_simp; rfl)); intro gb2 hg w19 hbox hb; have BK2 := Aside0.mk (hbox); have GW2 := gwS hg HB; have GE2 := gwS hg HB; have NB1_2 := nbL hg BK1; have NB2_1 := nbG hg BK1; replace BK1 := bkB BK1 hb; replace HB := hbS HB hb; clear hb hbox hg; have hnb20 := NB1_2.out; have hnc20 := NB2_1.out; obtain ⟨hcz21_0, hcz21_1, hcz21_2, hcz21_3, hfz21_0, hfz21_1, hfz21_2, hfz21_3⟩ := bc4 BK1; obtain ⟨hcz22_0, hcz22_1, hcz22_2, hcz22_3, hfz22_0, hfz22_1, hfz22_2, hfz22_3⟩ := bc4 BK2))
   go_ret
   exact ⟨by first | rfl | (simp [errW_none, errW_some] <;> rfl) | (simp [*, errW_none, errW_some] <;> rfl), hbW HB⟩
 ·
  rw [if_neg c3] at H
  have c3b0 : (a0_0 == a1_0) = false := beq_eq_false_iff_ne.mpr c3
  have c3b1 : (a0_0 != a1_0) = true := bne_iff_ne.mpr c3
  obtain rfl := Option.some.inj H
  go_enter Try.func18, Try.ntmps18
  go_wp2_with (first | ((with_reducible refine gate_dst (N := 2) rfl ?_); refine box_event ?hg (N := 2) ?hd (cs := #[.int .i64 a0_0, .int .u32 a0_1, .slice A0_2 l0_2.length c0_2, .slice A0_3 l0_3.length c0_3]) (t := 26) ?hr ?_; (case hd => rfl); (case hg => rfl); (case hr => first | (go_simp; done) | (go_simp; rfl)); intro gb1 hg w23 hbox hb; have BK1 := Aside0.mk (hbox); have GW1 := gwS hg HB; have GE1 := gwS hg HB; replace HB := hbS HB hb; clear hb hbox hg) | ((with_reducible refine gate_dst (N := 3) rfl ?_); refine box_event ?hg (N := 3) ?hd (cs := #[.int .i64 a1_0, .int .u32 a1_1, .slice A1_2 l1_2.length c1_2, .slice A1_3 l1_3.length c1_3]) (t := 26) ?hr ?_; (case hd => rfl); (case hg => rfl); (case hr => first | (go_simp; done) | (go_simp; rfl)); intro gb2 hg w24 hbox hb; have BK2 := Aside0.mk (hbox); have GW2 := gwS hg HB; have GE2 := gwS hg HB; have NB1_2 := nbL hg BK1; have NB2_1 := nbG hg BK1; replace BK1 := bkB BK1 hb; replace HB := hbS HB hb; clear hb hbox hg; have hnb25 := NB1_2.out; have hnc25 := NB2_1.out; obtain ⟨hcz26_0, hcz26_1, hcz26_2, hcz26_3, hfz26_0, hfz26_1, hfz26_2, hfz26_3⟩ := bc4 BK1; obtain ⟨hcz27_0, hcz27_1, hcz27_2, hcz27_3, hfz27_0, hfz27_1, hfz27_2, hfz27_3⟩ := bc4 BK2))
  go_ret
  exact ⟨by first | rfl | (simp [errW_none, errW_some] <;> rfl) | (simp [*, errW_none, errW_some] <;> rfl), hbW HB⟩

/-! ### dragomanlaw12_alive: function 8 -/
def q25z.f (k : Nat)  : Option (Bool) := (q11z.f k 5 0 (([1, 2] : List Int)) ([] : List (S53)) 0 0 (([3] : List Int)) ([] : List Int) 0 0 0 0).bind fun bt7 => ((q11z.f k 6 0 (([5, 3] : List Int)) ([] : List (S53)) 0 0 ([] : List Int) (([4] : List Int)) 0 0 0 0).bind fun bt26 => ((q11z.f k 8 0 ([] : List Int) (([(⟨false, (([(⟨4259840000, 4259905535⟩ : S50)] : List (S50)))⟩ : S53)] : List (S53))) 0 0 ([] : List Int) (([458759, 4259840001] : List Int)) 0 0 0 0).bind fun bt48 => ((q22z.f k bt7.2.2.1 (([1, 2, 3] : List Int))).bind fun t64 => (if t64 = true then ((q22z.f k bt26.2.2.2.1 (([3, 4, 5] : List Int))).bind fun t68 => (if t68 = true then ((q22z.f k bt48.2.2.2.1 (([458759] : List Int))).bind fun t72 => (some t72)) else (some false))) else (some false)))))
theorem q25z.mono : ∀ k, LeO (q25z.f k ) (q25z.f (k + 1) ) := by
 intro  k
 unfold q25z.f
 repeat' first
   | (with_reducible exact q11z.mono _ _ _ _ _ _ _ _ _ _ _ _ _)
   | (with_reducible exact q22z.mono _ _ _)
   | (with_reducible exact LeO.refl _)
   | (with_reducible exact LeO.none _)
   | (with_reducible refine LeO.ite ?_ ?_)
   | (with_reducible refine LeO.bind ?_ (fun _ => ?_))
   | exact q11z.mono _ _ _ _ _ _ _ _ _ _ _ _ _
   | exact q22z.mono _ _ _
   | exact LeO.none _
   | refine LeO.ite ?_ ?_
   | refine LeO.bind ?_ (fun _ => ?_)
set_option maxHeartbeats 8000000 in
set_option maxRecDepth 100000 in
theorem q25z.calls (k : Nat)  (r : Bool) (w : World) (h : q25z.f k  = some r) :
  Calls Try.prog 8 #[] w fun e w' => e = .returned (.bool r) ∧ Below w.heap.size w w' := by
 have hu26 := Try.underlying26
 have hu30 := Try.underlying30
 have hu50 := Try.underlying50
 have hu53 := Try.underlying53
 have HB := Aside0.mk (Below.refl w.heap.size w)
 have H : ((q11z.f k 5 0 (([1, 2] : List Int)) ([] : List (S53)) 0 0 (([3] : List Int)) ([] : List Int) 0 0 0 0).bind fun bt7 => ((q11z.f k 6 0 (([5, 3] : List Int)) ([] : List (S53)) 0 0 ([] : List Int) (([4] : List Int)) 0 0 0 0).bind fun bt26 => ((q11z.f k 8 0 ([] : List Int) (([(⟨false, (([(⟨4259840000, 4259905535⟩ : S50)] : List (S50)))⟩ : S53)] : List (S53))) 0 0 ([] : List Int) (([458759, 4259840001] : List Int)) 0 0 0 0).bind fun bt48 => ((q22z.f k bt7.2.2.1 (([1, 2, 3] : List Int))).bind fun t64 => (if t64 = true then ((q22z.f k bt26.2.2.2.1 (([3, 4, 5] : List Int))).bind fun t68 => (if t68 = true then ((q22z.f k bt48.2.2.2.1 (([458759] : List Int))).bind fun t72 => (some t72)) else (some false))) else (some false)))))) = some r := h
 clear h
 obtain ⟨y1, hy1⟩ : ∃ y_ : List Int, y_ = (([1, 2] : List Int)) := ⟨_, rfl⟩
 replace H : ((q11z.f k 5 0 y1 ([] : List (S53)) 0 0 (([3] : List Int)) ([] : List Int) 0 0 0 0).bind fun bt7 => ((q11z.f k 6 0 (([5, 3] : List Int)) ([] : List (S53)) 0 0 ([] : List Int) (([4] : List Int)) 0 0 0 0).bind fun bt26 => ((q11z.f k 8 0 ([] : List Int) (([(⟨false, (([(⟨4259840000, 4259905535⟩ : S50)] : List (S50)))⟩ : S53)] : List (S53))) 0 0 ([] : List Int) (([458759, 4259840001] : List Int)) 0 0 0 0).bind fun bt48 => ((q22z.f k bt7.2.2.1 (([1, 2, 3] : List Int))).bind fun t64 => (if t64 = true then ((q22z.f k bt26.2.2.2.1 (([3, 4, 5] : List Int))).bind fun t68 => (if t68 = true then ((q22z.f k bt48.2.2.2.1 (([458759] : List Int))).bind fun t72 => (some t72)) else (some false))) else (some false)))))) = some r := by first | (rw [hy1]; with_reducible exact H) | (have H2_ := (Option.bind_some _ _).symm.trans H; rw [hy1]; with_reducible exact H2_) | (have H2_ := (Option.bind_some _ _).symm.trans H; with_reducible exact H2_) | with_reducible exact H | (rw [hy1]; exact H) | exact H
 have Ny1 := Aside0.mk hy1
 clear hy1
 obtain ⟨y4, hy4⟩ : ∃ y_ : List Int, y_ = (([3] : List Int)) := ⟨_, rfl⟩
 replace H : ((q11z.f k 5 0 y1 ([] : List (S53)) 0 0 y4 ([] : List Int) 0 0 0 0).bind fun bt7 => ((q11z.f k 6 0 (([5, 3] : List Int)) ([] : List (S53)) 0 0 ([] : List Int) (([4] : List Int)) 0 0 0 0).bind fun bt26 => ((q11z.f k 8 0 ([] : List Int) (([(⟨false, (([(⟨4259840000, 4259905535⟩ : S50)] : List (S50)))⟩ : S53)] : List (S53))) 0 0 ([] : List Int) (([458759, 4259840001] : List Int)) 0 0 0 0).bind fun bt48 => ((q22z.f k bt7.2.2.1 (([1, 2, 3] : List Int))).bind fun t64 => (if t64 = true then ((q22z.f k bt26.2.2.2.1 (([3, 4, 5] : List Int))).bind fun t68 => (if t68 = true then ((q22z.f k bt48.2.2.2.1 (([458759] : List Int))).bind fun t72 => (some t72)) else (some false))) else (some false)))))) = some r := by first | (rw [hy4]; with_reducible exact H) | (have H2_ := (Option.bind_some _ _).symm.trans H; rw [hy4]; with_reducible exact H2_) | (have H2_ := (Option.bind_some _ _).symm.trans H; with_reducible exact H2_) | with_reducible exact H | (rw [hy4]; exact H) | exact H
 have Ny4 := Aside0.mk hy4
 clear hy4
 replace H := Option.bind_eq_some_iff.mp H
 obtain ⟨⟨t7, t8, t9, t12, t15, t16, t17, t18⟩, A10, H⟩ := H
 replace H : ((q11z.f k 6 0 (([5, 3] : List Int)) ([] : List (S53)) 0 0 ([] : List Int) (([4] : List Int)) 0 0 0 0).bind fun bt26 => ((q11z.f k 8 0 ([] : List Int) (([(⟨false, (([(⟨4259840000, 4259905535⟩ : S50)] : List (S50)))⟩ : S53)] : List (S53))) 0 0 ([] : List Int) (([458759, 4259840001] : List Int)) 0 0 0 0).bind fun bt48 => ((q22z.f k t9 (([1, 2, 3] : List Int))).bind fun t64 => (if t64 = true then ((q22z.f k bt26.2.2.2.1 (([3, 4, 5] : List Int))).bind fun t68 => (if t68 = true then ((q22z.f k bt48.2.2.2.1 (([458759] : List Int))).bind fun t72 => (some t72)) else (some false))) else (some false))))) = some r := H
 have A1 := Aside0.mk A10
 clear A10
 obtain ⟨y20, hy20⟩ : ∃ y_ : List Int, y_ = (([5, 3] : List Int)) := ⟨_, rfl⟩
 replace H : ((q11z.f k 6 0 y20 ([] : List (S53)) 0 0 ([] : List Int) (([4] : List Int)) 0 0 0 0).bind fun bt26 => ((q11z.f k 8 0 ([] : List Int) (([(⟨false, (([(⟨4259840000, 4259905535⟩ : S50)] : List (S50)))⟩ : S53)] : List (S53))) 0 0 ([] : List Int) (([458759, 4259840001] : List Int)) 0 0 0 0).bind fun bt48 => ((q22z.f k t9 (([1, 2, 3] : List Int))).bind fun t64 => (if t64 = true then ((q22z.f k bt26.2.2.2.1 (([3, 4, 5] : List Int))).bind fun t68 => (if t68 = true then ((q22z.f k bt48.2.2.2.1 (([458759] : List Int))).bind fun t72 => (some t72)) else (some false))) else (some false))))) = some r := by first | (rw [hy20]; with_reducible exact H) | (have H2_ := (Option.bind_some _ _).symm.trans H; rw [hy20]; with_reducible exact H2_) | (have H2_ := (Option.bind_some _ _).symm.trans H; with_reducible exact H2_) | with_reducible exact H | (rw [hy20]; exact H) | exact H
 have Ny20 := Aside0.mk hy20
 clear hy20
 obtain ⟨y23, hy23⟩ : ∃ y_ : List Int, y_ = (([4] : List Int)) := ⟨_, rfl⟩
 replace H : ((q11z.f k 6 0 y20 ([] : List (S53)) 0 0 ([] : List Int) y23 0 0 0 0).bind fun bt26 => ((q11z.f k 8 0 ([] : List Int) (([(⟨false, (([(⟨4259840000, 4259905535⟩ : S50)] : List (S50)))⟩ : S53)] : List (S53))) 0 0 ([] : List Int) (([458759, 4259840001] : List Int)) 0 0 0 0).bind fun bt48 => ((q22z.f k t9 (([1, 2, 3] : List Int))).bind fun t64 => (if t64 = true then ((q22z.f k bt26.2.2.2.1 (([3, 4, 5] : List Int))).bind fun t68 => (if t68 = true then ((q22z.f k bt48.2.2.2.1 (([458759] : List Int))).bind fun t72 => (some t72)) else (some false))) else (some false))))) = some r := by first | (rw [hy23]; with_reducible exact H) | (have H2_ := (Option.bind_some _ _).symm.trans H; rw [hy23]; with_reducible exact H2_) | (have H2_ := (Option.bind_some _ _).symm.trans H; with_reducible exact H2_) | with_reducible exact H | (rw [hy23]; exact H) | exact H
 have Ny23 := Aside0.mk hy23
 clear hy23
 replace H := Option.bind_eq_some_iff.mp H
 obtain ⟨⟨t26, t27, t28, t31, t34, t35, t36, t37⟩, A20, H⟩ := H
 replace H : ((q11z.f k 8 0 ([] : List Int) (([(⟨false, (([(⟨4259840000, 4259905535⟩ : S50)] : List (S50)))⟩ : S53)] : List (S53))) 0 0 ([] : List Int) (([458759, 4259840001] : List Int)) 0 0 0 0).bind fun bt48 => ((q22z.f k t9 (([1, 2, 3] : List Int))).bind fun t64 => (if t64 = true then ((q22z.f k t31 (([3, 4, 5] : List Int))).bind fun t68 => (if t68 = true then ((q22z.f k bt48.2.2.2.1 (([458759] : List Int))).bind fun t72 => (some t72)) else (some false))) else (some false)))) = some r := H
 have A2 := Aside0.mk A20
 clear A20
 obtain ⟨y39, hy39⟩ : ∃ y_ : List (S50), y_ = (([(⟨4259840000, 4259905535⟩ : S50)] : List (S50))) := ⟨_, rfl⟩
 replace H : ((q11z.f k 8 0 ([] : List Int) (([(⟨false, y39⟩ : S53)] : List (S53))) 0 0 ([] : List Int) (([458759, 4259840001] : List Int)) 0 0 0 0).bind fun bt48 => ((q22z.f k t9 (([1, 2, 3] : List Int))).bind fun t64 => (if t64 = true then ((q22z.f k t31 (([3, 4, 5] : List Int))).bind fun t68 => (if t68 = true then ((q22z.f k bt48.2.2.2.1 (([458759] : List Int))).bind fun t72 => (some t72)) else (some false))) else (some false)))) = some r := by first | (rw [hy39]; with_reducible exact H) | (have H2_ := (Option.bind_some _ _).symm.trans H; rw [hy39]; with_reducible exact H2_) | (have H2_ := (Option.bind_some _ _).symm.trans H; with_reducible exact H2_) | with_reducible exact H | (rw [hy39]; exact H) | exact H
 have Ny39 := Aside0.mk hy39
 clear hy39
 obtain ⟨y42, hy42⟩ : ∃ y_ : List (S53), y_ = (([(⟨false, y39⟩ : S53)] : List (S53))) := ⟨_, rfl⟩
 replace H : ((q11z.f k 8 0 ([] : List Int) y42 0 0 ([] : List Int) (([458759, 4259840001] : List Int)) 0 0 0 0).bind fun bt48 => ((q22z.f k t9 (([1, 2, 3] : List Int))).bind fun t64 => (if t64 = true then ((q22z.f k t31 (([3, 4, 5] : List Int))).bind fun t68 => (if t68 = true then ((q22z.f k bt48.2.2.2.1 (([458759] : List Int))).bind fun t72 => (some t72)) else (some false))) else (some false)))) = some r := by first | (rw [hy42]; with_reducible exact H) | (have H2_ := (Option.bind_some _ _).symm.trans H; rw [hy42]; with_reducible exact H2_) | (have H2_ := (Option.bind_some _ _).symm.trans H; with_reducible exact H2_) | with_reducible exact H | (rw [hy42]; exact H) | exact H
 have Ny42 := Aside0.mk hy42
 clear hy42
 obtain ⟨y45, hy45⟩ : ∃ y_ : List Int, y_ = (([458759, 4259840001] : List Int)) := ⟨_, rfl⟩
 replace H : ((q11z.f k 8 0 ([] : List Int) y42 0 0 ([] : List Int) y45 0 0 0 0).bind fun bt48 => ((q22z.f k t9 (([1, 2, 3] : List Int))).bind fun t64 => (if t64 = true then ((q22z.f k t31 (([3, 4, 5] : List Int))).bind fun t68 => (if t68 = true then ((q22z.f k bt48.2.2.2.1 (([458759] : List Int))).bind fun t72 => (some t72)) else (some false))) else (some false)))) = some r := by first | (rw [hy45]; with_reducible exact H) | (have H2_ := (Option.bind_some _ _).symm.trans H; rw [hy45]; with_reducible exact H2_) | (have H2_ := (Option.bind_some _ _).symm.trans H; with_reducible exact H2_) | with_reducible exact H | (rw [hy45]; exact H) | exact H
 have Ny45 := Aside0.mk hy45
 clear hy45
 replace H := Option.bind_eq_some_iff.mp H
 obtain ⟨⟨t48, t49, t50, t53, t56, t57, t58, t59⟩, A30, H⟩ := H
 replace H : ((q22z.f k t9 (([1, 2, 3] : List Int))).bind fun t64 => (if t64 = true then ((q22z.f k t31 (([3, 4, 5] : List Int))).bind fun t68 => (if t68 = true then ((q22z.f k t53 (([458759] : List Int))).bind fun t72 => (some t72)) else (some false))) else (some false))) = some r := H
 have A3 := Aside0.mk A30
 clear A30
 obtain ⟨y61, hy61⟩ : ∃ y_ : List Int, y_ = (([1, 2, 3] : List Int)) := ⟨_, rfl⟩
 replace H : ((q22z.f k t9 y61).bind fun t64 => (if t64 = true then ((q22z.f k t31 (([3, 4, 5] : List Int))).bind fun t68 => (if t68 = true then ((q22z.f k t53 (([458759] : List Int))).bind fun t72 => (some t72)) else (some false))) else (some false))) = some r := by first | (rw [hy61]; with_reducible exact H) | (have H2_ := (Option.bind_some _ _).symm.trans H; rw [hy61]; with_reducible exact H2_) | (have H2_ := (Option.bind_some _ _).symm.trans H; with_reducible exact H2_) | with_reducible exact H | (rw [hy61]; exact H) | exact H
 have Ny61 := Aside0.mk hy61
 clear hy61
 replace H := Option.bind_eq_some_iff.mp H
 obtain ⟨t64, A40, H⟩ := H
 replace H : (if t64 = true then ((q22z.f k t31 (([3, 4, 5] : List Int))).bind fun t68 => (if t68 = true then ((q22z.f k t53 (([458759] : List Int))).bind fun t72 => (some t72)) else (some false))) else (some false)) = some r := H
 have A4 := Aside0.mk A40
 clear A40
 have HH_c5 := Aside0.mk H
 clear H
 go_enter Try.func8, Try.ntmps8
 go_upto_region 4 with (first | ((with_reducible refine gate_dst (N := 4) rfl ?_); (try (refine gate_guard (by rfl) ?_; dsimp only)); refine Kd.R_lit (Kd.int .u32) _ 22 ?hg (N := 4) ?hd (xs := ([1, 2] : List Int)) (inner := [.int .u32 1, .int .u32 2]) (ok := fun _ => True) (okp := fun _ => True) ?hr ?hp (fun _ hk => hk) trivial (Below.refl _ _) (Nat.le_refl _) (by simp) ?_; (case hd => rfl); (case hg => rfl); (case hr => first | (go_simp; done) | (go_simp; rfl)); (case hp => exact (Reps.one (show Kd.M (Kd.int .u32) _ _ _ 1 [.int .u32 1] from rfl) (Reps.one (show Kd.M (Kd.int .u32) _ _ _ 2 [.int .u32 2] from rfl) (Reps.none _ _)))); intro v2 w9 ho10 hb hg_ hnew_; clear hg_ hnew_; (first | rw [← Ny1.out] at ho10 | (simp only [Int.reduceToNat] at ho10; rw [← Ny1.out] at ho10)); have HO3 := Aside0.mk (Kd.R_lower ho10 (below_size (hbW HB))); replace HB := hbS HB hb; clear hb ho10; obtain ⟨Ao11, co11, eo11⟩ := Kd.R_slice HO3.out; subst eo11) | ((with_reducible refine gate_dst (N := 6) rfl ?_); (try (refine gate_guard (by rfl) ?_; dsimp only)); refine Kd.R_lit (Kd.int .u32) _ 22 ?hg (N := 6) ?hd (xs := ([3] : List Int)) (inner := [.int .u32 3]) (ok := fun _ => True) (okp := fun _ => True) ?hr ?hp (fun _ hk => hk) trivial (Below.refl _ _) (Nat.le_refl _) (by simp) ?_; (case hd => rfl); (case hg => rfl); (case hr => first | (go_simp; done) | (go_simp; rfl)); (case hp => exact (Reps.one (show Kd.M (Kd.int .u32) _ _ _ 3 [.int .u32 3] from rfl) (Reps.none _ _))); intro v5 w12 ho13 hb hg_ hnew_; clear hg_ hnew_; (first | rw [← Ny4.out] at ho13 | (simp only [Int.reduceToNat] at ho13; rw [← Ny4.out] at ho13)); have HO6 := Aside0.mk (Kd.R_lower (Kd.R_new' ho13 (Kd.R_lt (rW HO3))) (below_size (hbW HB))); replace HO3 := Aside0.mk (Kd.R_elder' (rW HO3) (Kd.R_base ho13) hb); replace HB := hbS HB hb; clear hb ho13; obtain ⟨Ao14, co14, eo14⟩ := Kd.R_slice HO6.out; subst eo14) | ((with_reducible refine gate_callee (f := 13) rfl ?_); refine goesL_ (some 8) rfl rfl Try.func13 (by kernel_rfl) rfl #[.agg #[.int .i64 5, .int .u32 0, .slice Ao11 y1.length co11, .slice none 0 0], .agg #[.int .u32 0, .int .i64 0, .slice Ao14 y4.length co14, .slice none 0 0, .int .u32 0, .int .u32 0, .int .i64 0, .int .u32 0]] rfl (by (try simp only [List.map_toArray, List.map_cons, List.map_nil]); first | done | rfl | (simp only [List.length_drop, List.length_take]; rfl)) ?_; (refine (q11z.calls k 5 0 (fun k_ => some k_ = (.slice Ao11 y1.length co11 : Value).ownBlock) _ _ y1 _ _ ([] : List (S53)) 0 0 _ _ y4 _ _ ([] : List Int) 0 0 0 0 t7 t8 t9 t12 t15 t16 t17 t18 _ ?side1 ?side2 ?side3 ?side4 ?side5 ?side6 ?side7 A1.out).mono ?_); (case side1 => exact Kd.R_V (Kd.R_tight rfl (HO3.out))); (case side2 => exact Kd.C_nil _ _); (case side3 => exact Nat.le_refl _); (case side4 => repeat (first | exact (Kd.R_reads' HO6.out).2.2 | (with_reducible refine Kd.C_alloc ?_ _) | (with_reducible refine Kd.C_drewN ?_ _) | (with_reducible refine Kd.C_drew ?_))); (case side5 => exact (Kd.R_reads' HO6.out).2.1); (case side6 => exact Kd.C_nil _ _); (case side7 => exact Nat.le_refl _); rintro e w15 ⟨v10, v13, rfl, ho0, ho1, hb⟩; refine ⟨_, rfl, ?_⟩; have HO11 := Aside0.mk (Kd.R_lower (Kd.R_new' (Kd.R_new' (Kd.R_mono (ok' := fun k_ => some k_ ≠ (v13 : Value).ownBlock) ho0 (fun _ hk_ => hk_.2)) (Kd.R_lt (rW HO3))) (Kd.R_lt (rW HO6))) (below_size (hbW HB))); have HO14 := Aside0.mk (Kd.R_lower (Kd.R_new' (Kd.R_new' (Kd.R_mono (ok' := fun k_ => some k_ ≠ (v10 : Value).ownBlock) ho1 (fun _ hk_ => hk_.2)) (Kd.R_lt (rW HO3))) (Kd.R_lt (rW HO6))) (below_size (hbW HB))); replace HO3 := Aside0.mk (Kd.R_mono (Kd.R_told (Kd.R_told (Kd.R_old (rW HO3) hb) (Kd.R_base ho0)) (Kd.R_base ho1)) (fun _ h_ => h_.1)); replace HO6 := Aside0.mk (Kd.R_mono (Kd.R_told (Kd.R_told (Kd.R_old (rW HO6) hb) (Kd.R_base ho0)) (Kd.R_base ho1)) (fun _ h_ => h_.1)); replace HB := hbS HB hb; (try clear hb); (try clear hk); (try clear ho0); (try clear ho1)) | ((with_reducible refine gate_dst (N := 1) rfl ?_); (try (refine gate_guard (by rfl) ?_; dsimp only)); refine box_event ?hg (N := 1) ?hd (cs := #[.int .u32 0, .int .i64 0, .slice none 0 0, .slice none 0 0, .int .u32 0, .int .u32 0, .int .i64 0, .int .u32 0]) (t := 30) ?hr ?_; (case hd => rfl); (case hg => rfl); (case hr => first | (go_simp; done) | (go_simp; rfl)); intro gb19 hg w16 hbox hb; have BK19 := Aside0.mk (hbox); have GW19 := gwS hg HB; have GE19 := gwS hg HB; replace HO3 := Aside0.mk (Kd.R_below (rW HO3) hb); replace HO6 := Aside0.mk (Kd.R_below (rW HO6) hb); replace HO11 := Aside0.mk (Kd.R_below (rW HO11) hb); replace HO14 := Aside0.mk (Kd.R_below (rW HO14) hb); replace HB := hbS HB hb; clear hb hbox hg; obtain ⟨hcz17_0, hcz17_1, hcz17_2, hcz17_3, hcz17_4, hcz17_5, hcz17_6, hcz17_7, hfz17_0, hfz17_1, hfz17_2, hfz17_3, hfz17_4, hfz17_5, hfz17_6, hfz17_7⟩ := bc8 BK19; obtain ⟨Ao18, co18, eo18⟩ := Kd.R_slice HO11.out; subst eo18; obtain ⟨Ao19, co19, eo19⟩ := Kd.R_slice HO14.out; subst eo19) | ((with_reducible refine gate_dst (N := 9) rfl ?_); (try (refine gate_guard (by rfl) ?_; dsimp only)); refine Kd.R_lit (Kd.int .u32) _ 22 ?hg (N := 9) ?hd (xs := ([5, 3] : List Int)) (inner := [.int .u32 5, .int .u32 3]) (ok := fun _ => True) (okp := fun _ => True) ?hr ?hp (fun _ hk => hk) trivial (Below.refl _ _) (Nat.le_refl _) (by simp) ?_; (case hd => rfl); (case hg => rfl); (case hr => first | (go_simp; done) | (go_simp; rfl)); (case hp => exact (Reps.one (show Kd.M (Kd.int .u32) _ _ _ 5 [.int .u32 5] from rfl) (Reps.one (show Kd.M (Kd.int .u32) _ _ _ 3 [.int .u32 3] from rfl) (Reps.none _ _)))); intro v21 w20 ho21 hb hg_ hnew_; clear hg_ hnew_; (first | rw [← Ny20.out] at ho21 | (simp only [Int.reduceToNat] at ho21; rw [← Ny20.out] at ho21)); have HO22 := Aside0.mk (Kd.R_lower (Kd.R_new' (Kd.R_new' (Kd.R_new' (Kd.R_new' ho21 (Kd.R_lt (rW HO3))) (Kd.R_lt (rW HO6))) (Kd.R_lt (rW HO11))) (Kd.R_lt (rW HO14))) (below_size (hbW HB))); replace HO3 := Aside0.mk (Kd.R_elder' (rW HO3) (Kd.R_base ho21) hb); replace HO6 := Aside0.mk (Kd.R_elder' (rW HO6) (Kd.R_base ho21) hb); replace HO11 := Aside0.mk (Kd.R_elder' (rW HO11) (Kd.R_base ho21) hb); replace HO14 := Aside0.mk (Kd.R_elder' (rW HO14) (Kd.R_base ho21) hb); replace BK19 := Aside0.mk (blk_below (g := gb19) (o := .cells #[.int .u32 t7, .int .i64 t8, .slice Ao18 t9.length co18, .slice Ao19 t12.length co19, .int .u32 t15, .int .u32 t16, .int .i64 t17, .int .u32 t18] 30 (0, 0)) (bp8 BK19) hb); replace HB := hbS HB hb; clear hb ho21; obtain ⟨Ao22, co22, eo22⟩ := Kd.R_slice HO22.out; subst eo22) | ((with_reducible refine gate_dst (N := 11) rfl ?_); (try (refine gate_guard (by rfl) ?_; dsimp only)); refine Kd.R_lit (Kd.int .u32) _ 22 ?hg (N := 11) ?hd (xs := ([4] : List Int)) (inner := [.int .u32 4]) (ok := fun _ => True) (okp := fun _ => True) ?hr ?hp (fun _ hk => hk) trivial (Below.refl _ _) (Nat.le_refl _) (by simp) ?_; (case hd => rfl); (case hg => rfl); (case hr => first | (go_simp; done) | (go_simp; rfl)); (case hp => exact (Reps.one (show Kd.M (Kd.int .u32) _ _ _ 4 [.int .u32 4] from rfl) (Reps.none _ _))); intro v24 w23 ho24 hb hg_ hnew_; clear hg_ hnew_; (first | rw [← Ny23.out] at ho24 | (simp only [Int.reduceToNat] at ho24; rw [← Ny23.out] at ho24)); have HO25 := Aside0.mk (Kd.R_lower (Kd.R_new' (Kd.R_new' (Kd.R_new' (Kd.R_new' (Kd.R_new' ho24 (Kd.R_lt (rW HO3))) (Kd.R_lt (rW HO6))) (Kd.R_lt (rW HO11))) (Kd.R_lt (rW HO14))) (Kd.R_lt (rW HO22))) (below_size (hbW HB))); replace HO3 := Aside0.mk (Kd.R_elder' (rW HO3) (Kd.R_base ho24) hb); replace HO6 := Aside0.mk (Kd.R_elder' (rW HO6) (Kd.R_base ho24) hb); replace HO11 := Aside0.mk (Kd.R_elder' (rW HO11) (Kd.R_base ho24) hb); replace HO14 := Aside0.mk (Kd.R_elder' (rW HO14) (Kd.R_base ho24) hb); replace HO22 := Aside0.mk (Kd.R_elder' (rW HO22) (Kd.R_base ho24) hb); replace BK19 := bkB BK19 hb; replace HB := hbS HB hb; clear hb ho24; obtain ⟨Ao25, co25, eo25⟩ := Kd.R_slice HO25.out; subst eo25) | ((with_reducible refine gate_callee (f := 13) rfl ?_); refine goesL_ (some 13) rfl rfl Try.func13 (by kernel_rfl) rfl #[.agg #[.int .i64 6, .int .u32 0, .slice Ao22 y20.length co22, .slice none 0 0], .agg #[.int .u32 0, .int .i64 0, .slice none 0 0, .slice Ao25 y23.length co25, .int .u32 0, .int .u32 0, .int .i64 0, .int .u32 0]] rfl (by (try simp only [List.map_toArray, List.map_cons, List.map_nil]); first | done | rfl | (simp only [List.length_drop, List.length_take]; rfl)) ?_; (refine (q11z.calls k 6 0 (fun k_ => some k_ = (.slice Ao22 y20.length co22 : Value).ownBlock) _ _ y20 _ _ ([] : List (S53)) 0 0 _ _ ([] : List Int) _ _ y23 0 0 0 0 t26 t27 t28 t31 t34 t35 t36 t37 _ ?side1 ?side2 ?side3 ?side4 ?side5 ?side6 ?side7 A2.out).mono ?_); (case side1 => exact Kd.R_V (Kd.R_tight rfl (Kd.R_types (HO22.out) BK19.out (by decide)))); (case side2 => exact Kd.C_nil _ _); (case side3 => exact Nat.le_refl _); (case side4 => exact Kd.C_nil _ _); (case side5 => exact Nat.le_refl _); (case side6 => repeat (first | exact (Kd.R_reads' HO25.out).2.2 | (with_reducible refine Kd.C_alloc ?_ _) | (with_reducible refine Kd.C_drewN ?_ _) | (with_reducible refine Kd.C_drew ?_))); (case side7 => exact (Kd.R_reads' HO25.out).2.1); rintro e w26 ⟨v29, v32, rfl, ho0, ho1, hb⟩; refine ⟨_, rfl, ?_⟩; have HO30 := Aside0.mk (Kd.R_lower (Kd.R_new' (Kd.R_new' (Kd.R_new' (Kd.R_new' (Kd.R_new' (Kd.R_new' (Kd.R_mono (ok' := fun k_ => some k_ ≠ (v32 : Value).ownBlock) ho0 (fun _ hk_ => hk_.2)) (Kd.R_lt (rW HO3))) (Kd.R_lt (rW HO6))) (Kd.R_lt (rW HO11))) (Kd.R_lt (rW HO14))) (Kd.R_lt (rW HO22))) (Kd.R_lt (rW HO25))) (below_size (hbW HB))); have HO33 := Aside0.mk (Kd.R_lower (Kd.R_new' (Kd.R_new' (Kd.R_new' (Kd.R_new' (Kd.R_new' (Kd.R_new' (Kd.R_mono (ok' := fun k_ => some k_ ≠ (v29 : Value).ownBlock) ho1 (fun _ hk_ => hk_.2)) (Kd.R_lt (rW HO3))) (Kd.R_lt (rW HO6))) (Kd.R_lt (rW HO11))) (Kd.R_lt (rW HO14))) (Kd.R_lt (rW HO22))) (Kd.R_lt (rW HO25))) (below_size (hbW HB))); replace HO3 := Aside0.mk (Kd.R_mono (Kd.R_told (Kd.R_told (Kd.R_old (rW HO3) hb) (Kd.R_base ho0)) (Kd.R_base ho1)) (fun _ h_ => h_.1)); replace HO6 := Aside0.mk (Kd.R_mono (Kd.R_told (Kd.R_told (Kd.R_old (rW HO6) hb) (Kd.R_base ho0)) (Kd.R_base ho1)) (fun _ h_ => h_.1)); replace HO11 := Aside0.mk (Kd.R_mono (Kd.R_told (Kd.R_told (Kd.R_old (rW HO11) hb) (Kd.R_base ho0)) (Kd.R_base ho1)) (fun _ h_ => h_.1)); replace HO14 := Aside0.mk (Kd.R_mono (Kd.R_told (Kd.R_told (Kd.R_old (rW HO14) hb) (Kd.R_base ho0)) (Kd.R_base ho1)) (fun _ h_ => h_.1)); replace HO22 := Aside0.mk (Kd.R_mono (Kd.R_told (Kd.R_told (Kd.R_old (rW HO22) hb) (Kd.R_base ho0)) (Kd.R_base ho1)) (fun _ h_ => h_.1)); replace HO25 := Aside0.mk (Kd.R_mono (Kd.R_told (Kd.R_told (Kd.R_old (rW HO25) hb) (Kd.R_base ho0)) (Kd.R_base ho1)) (fun _ h_ => h_.1)); replace BK19 := bkB BK19 hb; replace HB := hbS HB hb; (try clear hb); (try clear hk); (try clear ho0); (try clear ho1)) | ((with_reducible refine gate_dst (N := 2) rfl ?_); (try (refine gate_guard (by rfl) ?_; dsimp only)); refine box_event ?hg (N := 2) ?hd (cs := #[.int .u32 0, .int .i64 0, .slice none 0 0, .slice none 0 0, .int .u32 0, .int .u32 0, .int .i64 0, .int .u32 0]) (t := 30) ?hr ?_; (case hd => rfl); (case hg => rfl); (case hr => first | (go_simp; done) | (go_simp; rfl)); intro gb38 hg w27 hbox hb; have BK38 := Aside0.mk (hbox); have GW38 := gwS hg HB; have GE38 := gwS hg HB; have NB19_38 := nbL hg BK19; have NB38_19 := nbG hg BK19; replace HO3 := Aside0.mk (Kd.R_below (rW HO3) hb); replace HO6 := Aside0.mk (Kd.R_below (rW HO6) hb); replace HO11 := Aside0.mk (Kd.R_below (rW HO11) hb); replace HO14 := Aside0.mk (Kd.R_below (rW HO14) hb); replace HO22 := Aside0.mk (Kd.R_below (rW HO22) hb); replace HO25 := Aside0.mk (Kd.R_below (rW HO25) hb); replace HO30 := Aside0.mk (Kd.R_below (rW HO30) hb); replace HO33 := Aside0.mk (Kd.R_below (rW HO33) hb); replace BK19 := bkB BK19 hb; replace HB := hbS HB hb; clear hb hbox hg; have hnb28 := NB38_19.out; have hnc28 := NB19_38.out; obtain ⟨hcz29_0, hcz29_1, hcz29_2, hcz29_3, hcz29_4, hcz29_5, hcz29_6, hcz29_7, hfz29_0, hfz29_1, hfz29_2, hfz29_3, hfz29_4, hfz29_5, hfz29_6, hfz29_7⟩ := bc8 BK38; obtain ⟨Ao30, co30, eo30⟩ := Kd.R_slice HO30.out; subst eo30; obtain ⟨Ao31, co31, eo31⟩ := Kd.R_slice HO33.out; subst eo31) | ((with_reducible refine gate_dst (N := 15) rfl ?_); (try (refine gate_guard (by rfl) ?_; dsimp only)); refine Kd.R_lit k50 _ 50 ?hg (N := 15) ?hd (xs := ([(⟨4259840000, 4259905535⟩ : S50)] : List (S50))) (inner := [.int .u32 4259840000, .int .u32 4259905535]) (ok := fun _ => True) (okp := fun _ => True) ?hr ?hp (fun _ hk => hk) trivial (Below.refl _ _) (Nat.le_refl _) (by simp) ?_; (case hd => rfl); (case hg => rfl); (case hr => first | (go_simp; done) | (go_simp; rfl)); (case hp => exact (Reps.c2 (show Kd.M k50 _ _ _ (⟨4259840000, 4259905535⟩ : S50) [.int .u32 4259840000, .int .u32 4259905535] from (k50_mkM _ _ _ (⟨4259840000, 4259905535⟩ : S50) )) (Reps.none _ _))); intro v40 w32 ho33 hb hg_ hnew_; clear hg_ hnew_; (first | rw [← Ny39.out] at ho33 | (simp only [Int.reduceToNat] at ho33; rw [← Ny39.out] at ho33)); have HO41 := Aside0.mk (Kd.R_lower ho33 (below_size (hbW HB))); replace HO3 := Aside0.mk (Kd.R_below (rW HO3) hb); replace HO6 := Aside0.mk (Kd.R_below (rW HO6) hb); replace HO11 := Aside0.mk (Kd.R_below (rW HO11) hb); replace HO14 := Aside0.mk (Kd.R_below (rW HO14) hb); replace HO22 := Aside0.mk (Kd.R_below (rW HO22) hb); replace HO25 := Aside0.mk (Kd.R_below (rW HO25) hb); replace HO30 := Aside0.mk (Kd.R_below (rW HO30) hb); replace HO33 := Aside0.mk (Kd.R_below (rW HO33) hb); replace BK19 := bvB BK19 hb; replace BK38 := Aside0.mk (blk_below (g := gb38) (o := .cells #[.int .u32 t26, .int .i64 t27, .slice Ao30 t28.length co30, .slice Ao31 t31.length co31, .int .u32 t34, .int .u32 t35, .int .i64 t36, .int .u32 t37] 30 (0, 0)) (bp8 BK38) hb); replace HB := hbS HB hb; clear hb ho33; obtain ⟨Ao34, co34, eo34⟩ := Kd.R_slice HO41.out; subst eo34) | ((with_reducible refine gate_dst (N := 17) rfl ?_); (try (refine gate_guard (by rfl) ?_; dsimp only)); refine Kd.N_lit k53 _ 53 ?hg (N' := 17) ?hd (xs := ([(⟨false, y39⟩ : S53)] : List (S53))) (inner := [.bool false, .slice Ao34 y39.length co34]) (ok := (fun k_ => some k_ ≠ (.slice Ao11 y1.length co11 : Value).ownBlock ∧ some k_ ≠ (.slice Ao14 y4.length co14 : Value).ownBlock ∧ some k_ ≠ (.slice Ao18 t9.length co18 : Value).ownBlock ∧ some k_ ≠ (.slice Ao19 t12.length co19 : Value).ownBlock ∧ some k_ ≠ (.slice Ao22 y20.length co22 : Value).ownBlock ∧ some k_ ≠ (.slice Ao25 y23.length co25 : Value).ownBlock ∧ some k_ ≠ (.slice Ao30 t28.length co30 : Value).ownBlock ∧ some k_ ≠ (.slice Ao31 t31.length co31 : Value).ownBlock ∧ k_ ≠ gb19 ∧ k_ ≠ gb38)) (okp := (fun k_ => some k_ ≠ (.slice Ao11 y1.length co11 : Value).ownBlock ∧ some k_ ≠ (.slice Ao14 y4.length co14 : Value).ownBlock ∧ some k_ ≠ (.slice Ao18 t9.length co18 : Value).ownBlock ∧ some k_ ≠ (.slice Ao19 t12.length co19 : Value).ownBlock ∧ some k_ ≠ (.slice Ao22 y20.length co22 : Value).ownBlock ∧ some k_ ≠ (.slice Ao25 y23.length co25 : Value).ownBlock ∧ some k_ ≠ (.slice Ao30 t28.length co30 : Value).ownBlock ∧ some k_ ≠ (.slice Ao31 t31.length co31 : Value).ownBlock ∧ k_ ≠ gb19 ∧ k_ ≠ gb38)) ?hr ?hp (fun _ hk => hk) ((show ∀ k_, w32.heap.size ≤ k_ → (fun k_ => some k_ ≠ (.slice Ao11 y1.length co11 : Value).ownBlock ∧ some k_ ≠ (.slice Ao14 y4.length co14 : Value).ownBlock ∧ some k_ ≠ (.slice Ao18 t9.length co18 : Value).ownBlock ∧ some k_ ≠ (.slice Ao19 t12.length co19 : Value).ownBlock ∧ some k_ ≠ (.slice Ao22 y20.length co22 : Value).ownBlock ∧ some k_ ≠ (.slice Ao25 y23.length co25 : Value).ownBlock ∧ some k_ ≠ (.slice Ao30 t28.length co30 : Value).ownBlock ∧ some k_ ≠ (.slice Ao31 t31.length co31 : Value).ownBlock ∧ k_ ≠ gb19 ∧ k_ ≠ gb38) k_ from fun k_ hk => ⟨Kd.fresh' (Kd.R_lt (rW HO3)) k_ hk, Kd.fresh' (Kd.R_lt (rW HO6)) k_ hk, Kd.fresh' (Kd.R_lt (rW HO11)) k_ hk, Kd.fresh' (Kd.R_lt (rW HO14)) k_ hk, Kd.fresh' (Kd.R_lt (rW HO22)) k_ hk, Kd.fresh' (Kd.R_lt (rW HO25)) k_ hk, Kd.fresh' (Kd.R_lt (rW HO30)) k_ hk, Kd.fresh' (Kd.R_lt (rW HO33)) k_ hk, Kd.freshB (g := gb19) (o := .cells #[.int .u32 t7, .int .i64 t8, .slice Ao18 t9.length co18, .slice Ao19 t12.length co19, .int .u32 t15, .int .u32 t16, .int .i64 t17, .int .u32 t18] 30 (0, 0)) (bkW BK19) k_ hk, Kd.freshB (g := gb38) (o := .cells #[.int .u32 t26, .int .i64 t27, .slice Ao30 t28.length co30, .slice Ao31 t31.length co31, .int .u32 t34, .int .u32 t35, .int .i64 t36, .int .u32 t37] 30 (0, 0)) (bkW BK38) k_ hk⟩) _ (Nat.le_refl _)) (Below.refl _ _) (Nat.le_refl _) (by simp) ?_; (case hd => rfl); (case hg => rfl); (case hr => first | (go_simp; done) | (go_simp; rfl)); (case hp => exact (Reps.c2 (show Kd.FK k53 _ _ (⟨false, y39⟩ : S53) [.bool false, .slice Ao34 y39.length co34] from (k53_mkF _ _ (⟨false, y39⟩ : S53) (Kd.R_reads' (Kd.R_mono (ok' := (fun k_ => some k_ ≠ (.slice Ao11 y1.length co11 : Value).ownBlock ∧ some k_ ≠ (.slice Ao14 y4.length co14 : Value).ownBlock ∧ some k_ ≠ (.slice Ao18 t9.length co18 : Value).ownBlock ∧ some k_ ≠ (.slice Ao19 t12.length co19 : Value).ownBlock ∧ some k_ ≠ (.slice Ao22 y20.length co22 : Value).ownBlock ∧ some k_ ≠ (.slice Ao25 y23.length co25 : Value).ownBlock ∧ some k_ ≠ (.slice Ao30 t28.length co30 : Value).ownBlock ∧ some k_ ≠ (.slice Ao31 t31.length co31 : Value).ownBlock ∧ k_ ≠ gb19 ∧ k_ ≠ gb38)) (Kd.R_types (Kd.R_types (Kd.R_apart' (Kd.R_apart' (Kd.R_apart' (Kd.R_apart' (Kd.R_apart' (Kd.R_apart' (Kd.R_apart' (Kd.R_apart' (HO41.out) (Kd.R_typed HO3.out) (by decide)) (Kd.R_typed HO6.out) (by decide)) (Kd.R_typed HO11.out) (by decide)) (Kd.R_typed HO14.out) (by decide)) (Kd.R_typed HO22.out) (by decide)) (Kd.R_typed HO25.out) (by decide)) (Kd.R_typed HO30.out) (by decide)) (Kd.R_typed HO33.out) (by decide)) BK19.out (by decide)) BK38.out (by decide)) (fun k_ hk => ⟨hk.1.1.1.1.1.1.1.1.1.2, ⟨hk.1.1.1.1.1.1.1.1.2, ⟨hk.1.1.1.1.1.1.1.2, ⟨hk.1.1.1.1.1.1.2, ⟨hk.1.1.1.1.1.2, ⟨hk.1.1.1.1.2, ⟨hk.1.1.1.2, ⟨hk.1.1.2, ⟨hk.1.2, hk.2⟩⟩⟩⟩⟩⟩⟩⟩⟩))).2.1 (Kd.R_F (Kd.R_mono (ok' := (fun k_ => some k_ ≠ (.slice Ao11 y1.length co11 : Value).ownBlock ∧ some k_ ≠ (.slice Ao14 y4.length co14 : Value).ownBlock ∧ some k_ ≠ (.slice Ao18 t9.length co18 : Value).ownBlock ∧ some k_ ≠ (.slice Ao19 t12.length co19 : Value).ownBlock ∧ some k_ ≠ (.slice Ao22 y20.length co22 : Value).ownBlock ∧ some k_ ≠ (.slice Ao25 y23.length co25 : Value).ownBlock ∧ some k_ ≠ (.slice Ao30 t28.length co30 : Value).ownBlock ∧ some k_ ≠ (.slice Ao31 t31.length co31 : Value).ownBlock ∧ k_ ≠ gb19 ∧ k_ ≠ gb38)) (Kd.R_types (Kd.R_types (Kd.R_apart' (Kd.R_apart' (Kd.R_apart' (Kd.R_apart' (Kd.R_apart' (Kd.R_apart' (Kd.R_apart' (Kd.R_apart' (HO41.out) (Kd.R_typed HO3.out) (by decide)) (Kd.R_typed HO6.out) (by decide)) (Kd.R_typed HO11.out) (by decide)) (Kd.R_typed HO14.out) (by decide)) (Kd.R_typed HO22.out) (by decide)) (Kd.R_typed HO25.out) (by decide)) (Kd.R_typed HO30.out) (by decide)) (Kd.R_typed HO33.out) (by decide)) BK19.out (by decide)) BK38.out (by decide)) (fun k_ hk => ⟨hk.1.1.1.1.1.1.1.1.1.2, ⟨hk.1.1.1.1.1.1.1.1.2, ⟨hk.1.1.1.1.1.1.1.2, ⟨hk.1.1.1.1.1.1.2, ⟨hk.1.1.1.1.1.2, ⟨hk.1.1.1.1.2, ⟨hk.1.1.1.2, ⟨hk.1.1.2, ⟨hk.1.2, hk.2⟩⟩⟩⟩⟩⟩⟩⟩⟩))))) (Reps.none _ _))); intro v43 w35 ho36 hb hg_ hnew_; clear hg_ hnew_; (first | rw [← Ny42.out] at ho36 | (simp only [Int.reduceToNat] at ho36; rw [← Ny42.out] at ho36)); have n0_ := Aside0.mk (Kd.R_below (rW HO3) hb); have n1_ := Aside0.mk (Kd.R_below (rW HO6) hb); have n2_ := Aside0.mk (Kd.R_below (rW HO11) hb); have n3_ := Aside0.mk (Kd.R_below (rW HO14) hb); have n4_ := Aside0.mk (Kd.R_below (rW HO22) hb); have n5_ := Aside0.mk (Kd.R_below (rW HO25) hb); have n6_ := Aside0.mk (Kd.R_below (rW HO30) hb); have n7_ := Aside0.mk (Kd.R_below (rW HO33) hb); have n8_ := Aside0.mk (Kd.N_lower ho36 (below_size (hbW HB))); have n9_ := bkB BK19 hb; have n10_ := bkB BK38 hb; have n11_ := hbS HB hb; clear HO3; clear HO6; clear HO11; clear HO14; clear HO22; clear HO25; clear HO30; clear HO33; clear BK19; clear BK38; clear HB; clear HO41; have HO3 := n0_; have HO6 := n1_; have HO11 := n2_; have HO14 := n3_; have HO22 := n4_; have HO25 := n5_; have HO30 := n6_; have HO33 := n7_; have HO44 := n8_; have BK19 := n9_; have BK38 := n10_; have HB := n11_; clear n0_ n1_ n2_ n3_ n4_ n5_ n6_ n7_ n8_ n9_ n10_ n11_; clear hb ho36; obtain ⟨Ao37, co37, eo37⟩ := Kd.N_slice HO44.out; subst eo37) | ((with_reducible refine gate_dst (N := 19) rfl ?_); (try (refine gate_guard (by rfl) ?_; dsimp only)); refine Kd.R_lit (Kd.int .u32) _ 22 ?hg (N := 19) ?hd (xs := ([458759, 4259840001] : List Int)) (inner := [.int .u32 458759, .int .u32 4259840001]) (ok := fun _ => True) (okp := fun _ => True) ?hr ?hp (fun _ hk => hk) trivial (Below.refl _ _) (Nat.le_refl _) (by simp) ?_; (case hd => rfl); (case hg => rfl); (case hr => first | (go_simp; done) | (go_simp; rfl)); (case hp => exact (Reps.one (show Kd.M (Kd.int .u32) _ _ _ 458759 [.int .u32 458759] from rfl) (Reps.one (show Kd.M (Kd.int .u32) _ _ _ 4259840001 [.int .u32 4259840001] from rfl) (Reps.none _ _)))); intro v46 w38 ho39 hb hg_ hnew_; clear hg_ hnew_; (first | rw [← Ny45.out] at ho39 | (simp only [Int.reduceToNat] at ho39; rw [← Ny45.out] at ho39)); have HO47 := Aside0.mk (Kd.R_lower (Kd.R_new' (Kd.R_new' (Kd.R_new' (Kd.R_new' (Kd.R_new' (Kd.R_new' (Kd.R_new' (Kd.R_new' ho39 (Kd.R_lt (rW HO3))) (Kd.R_lt (rW HO6))) (Kd.R_lt (rW HO11))) (Kd.R_lt (rW HO14))) (Kd.R_lt (rW HO22))) (Kd.R_lt (rW HO25))) (Kd.R_lt (rW HO30))) (Kd.R_lt (rW HO33))) (below_size (hbW HB))); replace HO3 := Aside0.mk (Kd.R_elder' (rW HO3) (Kd.R_base ho39) hb); replace HO6 := Aside0.mk (Kd.R_elder' (rW HO6) (Kd.R_base ho39) hb); replace HO11 := Aside0.mk (Kd.R_elder' (rW HO11) (Kd.R_base ho39) hb); replace HO14 := Aside0.mk (Kd.R_elder' (rW HO14) (Kd.R_base ho39) hb); replace HO22 := Aside0.mk (Kd.R_elder' (rW HO22) (Kd.R_base ho39) hb); replace HO25 := Aside0.mk (Kd.R_elder' (rW HO25) (Kd.R_base ho39) hb); replace HO30 := Aside0.mk (Kd.R_elder' (rW HO30) (Kd.R_base ho39) hb); replace HO33 := Aside0.mk (Kd.R_elder' (rW HO33) (Kd.R_base ho39) hb); replace HO44 := Aside0.mk (Kd.N_elder' (by (with_reducible repeat (first | apply Kd.N_alloc | apply Kd.N_drewN | apply Kd.N_drew)); exact HO44.out) (Kd.R_base ho39) hb); replace BK19 := bkB BK19 hb; replace BK38 := bkB BK38 hb; replace HB := hbS HB hb; clear hb ho39; obtain ⟨Ao40, co40, eo40⟩ := Kd.R_slice HO47.out; subst eo40) | ((with_reducible refine gate_callee (f := 13) rfl ?_); refine goesL_ (some 21) rfl rfl Try.func13 (by kernel_rfl) rfl #[.agg #[.int .i64 8, .int .u32 0, .slice none 0 0, .slice Ao37 y42.length co37], .agg #[.int .u32 0, .int .i64 0, .slice none 0 0, .slice Ao40 y45.length co40, .int .u32 0, .int .u32 0, .int .i64 0, .int .u32 0]] rfl (by (try simp only [List.map_toArray, List.map_cons, List.map_nil]); first | done | rfl | (simp only [List.length_drop, List.length_take]; rfl)) ?_; (refine (q11z.calls k 8 0 (fun k_ => False) _ _ ([] : List Int) _ _ y42 0 0 _ _ ([] : List Int) _ _ y45 0 0 0 0 t48 t49 t50 t53 t56 t57 t58 t59 _ ?side1 ?side2 ?side3 ?side4 ?side5 ?side6 ?side7 A3.out).mono ?_); (case side1 => exact Kd.V_nil _ _ _ _ _); (case side2 => repeat (first | exact (Kd.N_reads' HO44.out).2.2 | (with_reducible refine Kd.C_alloc ?_ _) | (with_reducible refine Kd.C_drewN ?_ _) | (with_reducible refine Kd.C_drew ?_))); (case side3 => exact (Kd.N_reads' HO44.out).2.1); (case side4 => exact Kd.C_nil _ _); (case side5 => exact Nat.le_refl _); (case side6 => repeat (first | exact (Kd.R_reads' HO47.out).2.2 | (with_reducible refine Kd.C_alloc ?_ _) | (with_reducible refine Kd.C_drewN ?_ _) | (with_reducible refine Kd.C_drew ?_))); (case side7 => exact (Kd.R_reads' HO47.out).2.1); rintro e w41 ⟨v51, v54, rfl, ho0, ho1, hb⟩; refine ⟨_, rfl, ?_⟩; have HO52 := Aside0.mk (Kd.R_lower (Kd.R_new' (Kd.R_new' (Kd.R_new' (Kd.R_new' (Kd.R_new' (Kd.R_new' (Kd.R_new' (Kd.R_new' (Kd.R_new' (Kd.R_mono (ok' := fun k_ => some k_ ≠ (v54 : Value).ownBlock) ho0 (fun _ hk_ => hk_.2)) (Kd.R_lt (rW HO3))) (Kd.R_lt (rW HO6))) (Kd.R_lt (rW HO11))) (Kd.R_lt (rW HO14))) (Kd.R_lt (rW HO22))) (Kd.R_lt (rW HO25))) (Kd.R_lt (rW HO30))) (Kd.R_lt (rW HO33))) (Kd.R_lt (rW HO47))) (below_size (hbW HB))); have HO55 := Aside0.mk (Kd.R_lower (Kd.R_new' (Kd.R_new' (Kd.R_new' (Kd.R_new' (Kd.R_new' (Kd.R_new' (Kd.R_new' (Kd.R_new' (Kd.R_new' (Kd.R_mono (ok' := fun k_ => some k_ ≠ (v51 : Value).ownBlock) ho1 (fun _ hk_ => hk_.2)) (Kd.R_lt (rW HO3))) (Kd.R_lt (rW HO6))) (Kd.R_lt (rW HO11))) (Kd.R_lt (rW HO14))) (Kd.R_lt (rW HO22))) (Kd.R_lt (rW HO25))) (Kd.R_lt (rW HO30))) (Kd.R_lt (rW HO33))) (Kd.R_lt (rW HO47))) (below_size (hbW HB))); replace HO3 := Aside0.mk (Kd.R_mono (Kd.R_told (Kd.R_told (Kd.R_old (rW HO3) hb) (Kd.R_base ho0)) (Kd.R_base ho1)) (fun _ h_ => h_.1)); replace HO6 := Aside0.mk (Kd.R_mono (Kd.R_told (Kd.R_told (Kd.R_old (rW HO6) hb) (Kd.R_base ho0)) (Kd.R_base ho1)) (fun _ h_ => h_.1)); replace HO11 := Aside0.mk (Kd.R_mono (Kd.R_told (Kd.R_told (Kd.R_old (rW HO11) hb) (Kd.R_base ho0)) (Kd.R_base ho1)) (fun _ h_ => h_.1)); replace HO14 := Aside0.mk (Kd.R_mono (Kd.R_told (Kd.R_told (Kd.R_old (rW HO14) hb) (Kd.R_base ho0)) (Kd.R_base ho1)) (fun _ h_ => h_.1)); replace HO22 := Aside0.mk (Kd.R_mono (Kd.R_told (Kd.R_told (Kd.R_old (rW HO22) hb) (Kd.R_base ho0)) (Kd.R_base ho1)) (fun _ h_ => h_.1)); replace HO25 := Aside0.mk (Kd.R_mono (Kd.R_told (Kd.R_told (Kd.R_old (rW HO25) hb) (Kd.R_base ho0)) (Kd.R_base ho1)) (fun _ h_ => h_.1)); replace HO30 := Aside0.mk (Kd.R_mono (Kd.R_told (Kd.R_told (Kd.R_old (rW HO30) hb) (Kd.R_base ho0)) (Kd.R_base ho1)) (fun _ h_ => h_.1)); replace HO33 := Aside0.mk (Kd.R_mono (Kd.R_told (Kd.R_told (Kd.R_old (rW HO33) hb) (Kd.R_base ho0)) (Kd.R_base ho1)) (fun _ h_ => h_.1)); replace HO44 := Aside0.mk (Kd.N_mono (Kd.N_told (Kd.N_told (Kd.N_old (by (with_reducible repeat (first | apply Kd.N_alloc | apply Kd.N_drewN | apply Kd.N_drew)); exact HO44.out) hb) (Kd.R_base ho0)) (Kd.R_base ho1)) (fun _ h_ => h_.1)); replace HO47 := Aside0.mk (Kd.R_mono (Kd.R_told (Kd.R_told (Kd.R_old (rW HO47) hb) (Kd.R_base ho0)) (Kd.R_base ho1)) (fun _ h_ => h_.1)); replace BK19 := bkB BK19 hb; replace BK38 := bkB BK38 hb; replace HB := hbS HB hb; (try clear hb); (try clear hk); (try clear ho0); (try clear ho1)) | ((with_reducible refine gate_dst (N := 3) rfl ?_); (try (refine gate_guard (by rfl) ?_; dsimp only)); refine box_event ?hg (N := 3) ?hd (cs := #[.int .u32 0, .int .i64 0, .slice none 0 0, .slice none 0 0, .int .u32 0, .int .u32 0, .int .i64 0, .int .u32 0]) (t := 30) ?hr ?_; (case hd => rfl); (case hg => rfl); (case hr => first | (go_simp; done) | (go_simp; rfl)); intro gb60 hg w42 hbox hb; have BK60 := Aside0.mk (hbox); have GW60 := gwS hg HB; have GE60 := gwS hg HB; have NB19_60 := nbL hg BK19; have NB60_19 := nbG hg BK19; have NB38_60 := nbL hg BK38; have NB60_38 := nbG hg BK38; replace HO3 := Aside0.mk (Kd.R_below (rW HO3) hb); replace HO6 := Aside0.mk (Kd.R_below (rW HO6) hb); replace HO11 := Aside0.mk (Kd.R_below (rW HO11) hb); replace HO14 := Aside0.mk (Kd.R_below (rW HO14) hb); replace HO22 := Aside0.mk (Kd.R_below (rW HO22) hb); replace HO25 := Aside0.mk (Kd.R_below (rW HO25) hb); replace HO30 := Aside0.mk (Kd.R_below (rW HO30) hb); replace HO33 := Aside0.mk (Kd.R_below (rW HO33) hb); replace HO44 := Aside0.mk (Kd.N_below (Kd.N_elderB (by (with_reducible repeat (first | apply Kd.N_alloc | apply Kd.N_drewN | apply Kd.N_drew)); exact HO44.out) gb60 (Nat.le_of_eq hg.symm)) hb); replace HO47 := Aside0.mk (Kd.R_below (rW HO47) hb); replace HO52 := Aside0.mk (Kd.R_below (rW HO52) hb); replace HO55 := Aside0.mk (Kd.R_below (rW HO55) hb); replace BK19 := bkB BK19 hb; replace BK38 := bkB BK38 hb; replace HB := hbS HB hb; clear hb hbox hg; have hnb43 := NB60_19.out; have hnc43 := NB19_60.out; have hnb44 := NB60_38.out; have hnc44 := NB38_60.out; obtain ⟨hcz45_0, hcz45_1, hcz45_2, hcz45_3, hcz45_4, hcz45_5, hcz45_6, hcz45_7, hfz45_0, hfz45_1, hfz45_2, hfz45_3, hfz45_4, hfz45_5, hfz45_6, hfz45_7⟩ := bc8 BK60; obtain ⟨Ao46, co46, eo46⟩ := Kd.R_slice HO52.out; subst eo46; obtain ⟨Ao47, co47, eo47⟩ := Kd.R_slice HO55.out; subst eo47; obtain ⟨hcz146_0, hcz146_1, hcz146_2, hcz146_3, hcz146_4, hcz146_5, hcz146_6, hcz146_7, hfz146_0, hfz146_1, hfz146_2, hfz146_3, hfz146_4, hfz146_5, hfz146_6, hfz146_7⟩ := bc8 BK19))
 have H := HH_c5.out
 clear HH_c5
 by_cases c5 : t64 = true
 ·
  subst c5
  have H1 : ((q22z.f k t31 (([3, 4, 5] : List Int))).bind fun t68 => (if t68 = true then ((q22z.f k t53 (([458759] : List Int))).bind fun t72 => (some t72)) else (some false))) = some r := by rw [if_pos rfl] at H; exact H
  clear H
  have H := H1
  clear H1
  obtain ⟨y65, hy65⟩ : ∃ y_ : List Int, y_ = (([3, 4, 5] : List Int)) := ⟨_, rfl⟩
  replace H : ((q22z.f k t31 y65).bind fun t68 => (if t68 = true then ((q22z.f k t53 (([458759] : List Int))).bind fun t72 => (some t72)) else (some false))) = some r := by first | (rw [hy65]; with_reducible exact H) | (have H2_ := (Option.bind_some _ _).symm.trans H; rw [hy65]; with_reducible exact H2_) | (have H2_ := (Option.bind_some _ _).symm.trans H; with_reducible exact H2_) | with_reducible exact H | (rw [hy65]; exact H) | exact H
  have Ny65 := Aside0.mk hy65
  clear hy65
  replace H := Option.bind_eq_some_iff.mp H
  obtain ⟨t68, A60, H⟩ := H
  replace H : (if t68 = true then ((q22z.f k t53 (([458759] : List Int))).bind fun t72 => (some t72)) else (some false)) = some r := H
  have A6 := Aside0.mk A60
  clear A60
  by_cases c7 : t68 = true
  ·
   subst c7
   have H1 : ((q22z.f k t53 (([458759] : List Int))).bind fun t72 => (some t72)) = some r := by rw [if_pos rfl] at H; exact H
   clear H
   have H := H1
   clear H1
   obtain ⟨y69, hy69⟩ : ∃ y_ : List Int, y_ = (([458759] : List Int)) := ⟨_, rfl⟩
   replace H : ((q22z.f k t53 y69).bind fun t72 => (some t72)) = some r := by first | (rw [hy69]; with_reducible exact H) | (have H2_ := (Option.bind_some _ _).symm.trans H; rw [hy69]; with_reducible exact H2_) | (have H2_ := (Option.bind_some _ _).symm.trans H; with_reducible exact H2_) | with_reducible exact H | (rw [hy69]; exact H) | exact H
   have Ny69 := Aside0.mk hy69
   clear hy69
   replace H := Option.bind_eq_some_iff.mp H
   obtain ⟨t72, A80, H⟩ := H
   replace H : (some t72) = some r := H
   have A8 := Aside0.mk A80
   clear A80
   obtain rfl := Option.some.inj H
   go_wp2_with (first | ((with_reducible refine gate_dst (N := 24) rfl ?_); (try (refine gate_guard (by rfl) ?_; dsimp only)); refine Kd.R_lit (Kd.int .u32) _ 22 ?hg (N := 24) ?hd (xs := ([1, 2, 3] : List Int)) (inner := [.int .u32 1, .int .u32 2, .int .u32 3]) (ok := fun _ => True) (okp := fun _ => True) ?hr ?hp (fun _ hk => hk) trivial (Below.refl _ _) (Nat.le_refl _) (by simp) ?_; (case hd => rfl); (case hg => rfl); (case hr => first | (go_simp; done) | (go_simp; rfl)); (case hp => exact (Reps.one (show Kd.M (Kd.int .u32) _ _ _ 1 [.int .u32 1] from rfl) (Reps.one (show Kd.M (Kd.int .u32) _ _ _ 2 [.int .u32 2] from rfl) (Reps.one (show Kd.M (Kd.int .u32) _ _ _ 3 [.int .u32 3] from rfl) (Reps.none _ _))))); intro v62 w49 ho50 hb hg_ hnew_; clear hg_ hnew_; (first | rw [← Ny61.out] at ho50 | (simp only [Int.reduceToNat] at ho50; rw [← Ny61.out] at ho50)); have HO63 := Aside0.mk (Kd.R_lower (Kd.R_new' (Kd.R_new' (Kd.R_new' (Kd.R_new' (Kd.R_new' (Kd.R_new' (Kd.R_new' (Kd.R_new' (Kd.R_new' (Kd.R_new' (Kd.R_new' ho50 (Kd.R_lt (rW HO3))) (Kd.R_lt (rW HO6))) (Kd.R_lt (rW HO11))) (Kd.R_lt (rW HO14))) (Kd.R_lt (rW HO22))) (Kd.R_lt (rW HO25))) (Kd.R_lt (rW HO30))) (Kd.R_lt (rW HO33))) (Kd.R_lt (rW HO47))) (Kd.R_lt (rW HO52))) (Kd.R_lt (rW HO55))) (below_size (hbW HB))); replace HO3 := Aside0.mk (Kd.R_elder' (rW HO3) (Kd.R_base ho50) hb); replace HO6 := Aside0.mk (Kd.R_elder' (rW HO6) (Kd.R_base ho50) hb); replace HO11 := Aside0.mk (Kd.R_elder' (rW HO11) (Kd.R_base ho50) hb); replace HO14 := Aside0.mk (Kd.R_elder' (rW HO14) (Kd.R_base ho50) hb); replace HO22 := Aside0.mk (Kd.R_elder' (rW HO22) (Kd.R_base ho50) hb); replace HO25 := Aside0.mk (Kd.R_elder' (rW HO25) (Kd.R_base ho50) hb); replace HO30 := Aside0.mk (Kd.R_elder' (rW HO30) (Kd.R_base ho50) hb); replace HO33 := Aside0.mk (Kd.R_elder' (rW HO33) (Kd.R_base ho50) hb); replace HO44 := Aside0.mk (Kd.N_elder' (by (with_reducible repeat (first | apply Kd.N_alloc | apply Kd.N_drewN | apply Kd.N_drew)); exact (Kd.N_mono (Kd.N_far (p := ⟨gb60, 7, none⟩) (Kd.N_far (p := ⟨gb60, 6, none⟩) (Kd.N_far (p := ⟨gb60, 5, none⟩) (Kd.N_far (p := ⟨gb60, 4, none⟩) (Kd.N_far (p := ⟨gb60, 3, none⟩) (Kd.N_far (p := ⟨gb60, 2, none⟩) (Kd.N_far (p := ⟨gb60, 1, none⟩) (Kd.N_far (p := ⟨gb60, 0, none⟩) (Kd.N_mono HO44.out (fun k_ hk => (⟨hk, hk.2⟩ : _ ∧ k_ ≠ gb60))) (fun _ hk => hk.2) (.int .u32 t48)) (fun _ hk => hk.2) (.int .i64 t49)) (fun _ hk => hk.2) (.slice Ao46 t50.length co46)) (fun _ hk => hk.2) (.slice Ao47 t53.length co47)) (fun _ hk => hk.2) (.int .u32 t56)) (fun _ hk => hk.2) (.int .u32 t57)) (fun _ hk => hk.2) (.int .i64 t58)) (fun _ hk => hk.2) (.int .u32 t59)) (fun _ h_ => h_.1))) (Kd.R_base ho50) hb); replace HO47 := Aside0.mk (Kd.R_elder' (rW HO47) (Kd.R_base ho50) hb); replace HO52 := Aside0.mk (Kd.R_elder' (rW HO52) (Kd.R_base ho50) hb); replace HO55 := Aside0.mk (Kd.R_elder' (rW HO55) (Kd.R_base ho50) hb); replace BK19 := bvB BK19 hb; replace BK38 := bvB BK38 hb; replace BK60 := Aside0.mk (blk_below (g := gb60) (o := .cells #[.int .u32 t48, .int .i64 t49, .slice Ao46 t50.length co46, .slice Ao47 t53.length co47, .int .u32 t56, .int .u32 t57, .int .i64 t58, .int .u32 t59] 30 (0, 0)) (bp8 BK60) hb); replace HB := hbS HB hb; clear hb ho50; obtain ⟨Ao51, co51, eo51⟩ := Kd.R_slice HO63.out; subst eo51) | ((with_reducible refine gate_callee (f := 20) rfl ?_); refine goesL_ (some 25) rfl rfl Try.func20 (by kernel_rfl) rfl #[.slice Ao18 t9.length co18, .slice Ao51 y61.length co51] rfl (by (try simp only [List.map_toArray, List.map_cons, List.map_nil]); first | done | rfl | (simp only [List.length_drop, List.length_take]; rfl)) ?_; (with_reducible refine (q22z.calls k _ _ t9 _ _ y61 true _ ?side1 ?side2 ?side3 ?side4 A4.out).mono ?_); (case side1 => repeat (first | exact (Kd.R_reads' HO11.out).2.2 | (with_reducible refine Kd.C_alloc ?_ _) | (with_reducible refine Kd.C_drewN ?_ _) | (with_reducible refine Kd.C_drew ?_))); (case side2 => exact (Kd.R_reads' HO11.out).2.1); (case side3 => repeat (first | exact (Kd.R_reads' HO63.out).2.2 | (with_reducible refine Kd.C_alloc ?_ _) | (with_reducible refine Kd.C_drewN ?_ _) | (with_reducible refine Kd.C_drew ?_))); (case side4 => exact (Kd.R_reads' HO63.out).2.1); rintro e w' ⟨rfl, ⟨nd, rfl⟩⟩; refine ⟨_, rfl, ?_⟩; obtain ⟨hcz52_0, hcz52_1, hcz52_2, hcz52_3, hcz52_4, hcz52_5, hcz52_6, hcz52_7, hfz52_0, hfz52_1, hfz52_2, hfz52_3, hfz52_4, hfz52_5, hfz52_6, hfz52_7⟩ := bc8 BK38) | ((with_reducible refine gate_dst (N := 29) rfl ?_); (try (refine gate_guard (by rfl) ?_; dsimp only)); refine Kd.R_lit (Kd.int .u32) _ 22 ?hg (N := 29) ?hd (xs := ([3, 4, 5] : List Int)) (inner := [.int .u32 3, .int .u32 4, .int .u32 5]) (ok := fun _ => True) (okp := fun _ => True) ?hr ?hp (fun _ hk => hk) trivial (Below.refl _ _) (Nat.le_refl _) (by simp) ?_; (case hd => rfl); (case hg => rfl); (case hr => first | (go_simp; done) | (go_simp; rfl)); (case hp => exact (Reps.one (show Kd.M (Kd.int .u32) _ _ _ 3 [.int .u32 3] from rfl) (Reps.one (show Kd.M (Kd.int .u32) _ _ _ 4 [.int .u32 4] from rfl) (Reps.one (show Kd.M (Kd.int .u32) _ _ _ 5 [.int .u32 5] from rfl) (Reps.none _ _))))); intro v66 w53 ho54 hb hg_ hnew_; clear hg_ hnew_; (first | rw [← Ny65.out] at ho54 | (simp only [Int.reduceToNat] at ho54; rw [← Ny65.out] at ho54)); have HO67 := Aside0.mk (Kd.R_lower (Kd.R_new' (Kd.R_new' (Kd.R_new' (Kd.R_new' (Kd.R_new' (Kd.R_new' (Kd.R_new' (Kd.R_new' (Kd.R_new' (Kd.R_new' (Kd.R_new' (Kd.R_new' ho54 (Kd.R_lt (rW HO3))) (Kd.R_lt (rW HO6))) (Kd.R_lt (rW HO11))) (Kd.R_lt (rW HO14))) (Kd.R_lt (rW HO22))) (Kd.R_lt (rW HO25))) (Kd.R_lt (rW HO30))) (Kd.R_lt (rW HO33))) (Kd.R_lt (rW HO47))) (Kd.R_lt (rW HO52))) (Kd.R_lt (rW HO55))) (Kd.R_lt (rW HO63))) (below_size (hbW HB))); replace HO3 := Aside0.mk (Kd.R_elder' (rW HO3) (Kd.R_base ho54) hb); replace HO6 := Aside0.mk (Kd.R_elder' (rW HO6) (Kd.R_base ho54) hb); replace HO11 := Aside0.mk (Kd.R_elder' (rW HO11) (Kd.R_base ho54) hb); replace HO14 := Aside0.mk (Kd.R_elder' (rW HO14) (Kd.R_base ho54) hb); replace HO22 := Aside0.mk (Kd.R_elder' (rW HO22) (Kd.R_base ho54) hb); replace HO25 := Aside0.mk (Kd.R_elder' (rW HO25) (Kd.R_base ho54) hb); replace HO30 := Aside0.mk (Kd.R_elder' (rW HO30) (Kd.R_base ho54) hb); replace HO33 := Aside0.mk (Kd.R_elder' (rW HO33) (Kd.R_base ho54) hb); replace HO44 := Aside0.mk (Kd.N_elder' (by (with_reducible repeat (first | apply Kd.N_alloc | apply Kd.N_drewN | apply Kd.N_drew)); exact HO44.out) (Kd.R_base ho54) hb); replace HO47 := Aside0.mk (Kd.R_elder' (rW HO47) (Kd.R_base ho54) hb); replace HO52 := Aside0.mk (Kd.R_elder' (rW HO52) (Kd.R_base ho54) hb); replace HO55 := Aside0.mk (Kd.R_elder' (rW HO55) (Kd.R_base ho54) hb); replace HO63 := Aside0.mk (Kd.R_elder' (rW HO63) (Kd.R_base ho54) hb); replace BK19 := bkB BK19 hb; replace BK38 := bkB BK38 hb; replace BK60 := bkB BK60 hb; replace HB := hbS HB hb; clear hb ho54; obtain ⟨Ao55, co55, eo55⟩ := Kd.R_slice HO67.out; subst eo55) | (go_at_call 20; (with_reducible refine (q22z.calls k _ _ t31 _ _ y65 true _ ?side1 ?side2 ?side3 ?side4 A6.out).mono ?_); (case side1 => repeat (first | exact (Kd.R_reads' HO33.out).2.2 | (with_reducible refine Kd.C_alloc ?_ _) | (with_reducible refine Kd.C_drewN ?_ _) | (with_reducible refine Kd.C_drew ?_))); (case side2 => exact (Kd.R_reads' HO33.out).2.1); (case side3 => repeat (first | exact (Kd.R_reads' HO67.out).2.2 | (with_reducible refine Kd.C_alloc ?_ _) | (with_reducible refine Kd.C_drewN ?_ _) | (with_reducible refine Kd.C_drew ?_))); (case side4 => exact (Kd.R_reads' HO67.out).2.1); rintro e w' ⟨rfl, ⟨nd, rfl⟩⟩; obtain ⟨hcz56_0, hcz56_1, hcz56_2, hcz56_3, hcz56_4, hcz56_5, hcz56_6, hcz56_7, hfz56_0, hfz56_1, hfz56_2, hfz56_3, hfz56_4, hfz56_5, hfz56_6, hfz56_7⟩ := bc8 BK60) | ((with_reducible refine gate_dst (N := 35) rfl ?_); (try (refine gate_guard (by rfl) ?_; dsimp only)); refine Kd.R_lit (Kd.int .u32) _ 22 ?hg (N := 35) ?hd (xs := ([458759] : List Int)) (inner := [.int .u32 458759]) (ok := fun _ => True) (okp := fun _ => True) ?hr ?hp (fun _ hk => hk) trivial (Below.refl _ _) (Nat.le_refl _) (by simp) ?_; (case hd => rfl); (case hg => rfl); (case hr => first | (go_simp; done) | (go_simp; rfl)); (case hp => exact (Reps.one (show Kd.M (Kd.int .u32) _ _ _ 458759 [.int .u32 458759] from rfl) (Reps.none _ _))); intro v70 w57 ho58 hb hg_ hnew_; clear hg_ hnew_; (first | rw [← Ny69.out] at ho58 | (simp only [Int.reduceToNat] at ho58; rw [← Ny69.out] at ho58)); have HO71 := Aside0.mk (Kd.R_lower (Kd.R_new' (Kd.R_new' (Kd.R_new' (Kd.R_new' (Kd.R_new' (Kd.R_new' (Kd.R_new' (Kd.R_new' (Kd.R_new' (Kd.R_new' (Kd.R_new' (Kd.R_new' (Kd.R_new' ho58 (Kd.R_lt (rW HO3))) (Kd.R_lt (rW HO6))) (Kd.R_lt (rW HO11))) (Kd.R_lt (rW HO14))) (Kd.R_lt (rW HO22))) (Kd.R_lt (rW HO25))) (Kd.R_lt (rW HO30))) (Kd.R_lt (rW HO33))) (Kd.R_lt (rW HO47))) (Kd.R_lt (rW HO52))) (Kd.R_lt (rW HO55))) (Kd.R_lt (rW HO63))) (Kd.R_lt (rW HO67))) (below_size (hbW HB))); replace HO3 := Aside0.mk (Kd.R_elder' (rW HO3) (Kd.R_base ho58) hb); replace HO6 := Aside0.mk (Kd.R_elder' (rW HO6) (Kd.R_base ho58) hb); replace HO11 := Aside0.mk (Kd.R_elder' (rW HO11) (Kd.R_base ho58) hb); replace HO14 := Aside0.mk (Kd.R_elder' (rW HO14) (Kd.R_base ho58) hb); replace HO22 := Aside0.mk (Kd.R_elder' (rW HO22) (Kd.R_base ho58) hb); replace HO25 := Aside0.mk (Kd.R_elder' (rW HO25) (Kd.R_base ho58) hb); replace HO30 := Aside0.mk (Kd.R_elder' (rW HO30) (Kd.R_base ho58) hb); replace HO33 := Aside0.mk (Kd.R_elder' (rW HO33) (Kd.R_base ho58) hb); replace HO44 := Aside0.mk (Kd.N_elder' (by (with_reducible repeat (first | apply Kd.N_alloc | apply Kd.N_drewN | apply Kd.N_drew)); exact HO44.out) (Kd.R_base ho58) hb); replace HO47 := Aside0.mk (Kd.R_elder' (rW HO47) (Kd.R_base ho58) hb); replace HO52 := Aside0.mk (Kd.R_elder' (rW HO52) (Kd.R_base ho58) hb); replace HO55 := Aside0.mk (Kd.R_elder' (rW HO55) (Kd.R_base ho58) hb); replace HO63 := Aside0.mk (Kd.R_elder' (rW HO63) (Kd.R_base ho58) hb); replace HO67 := Aside0.mk (Kd.R_elder' (rW HO67) (Kd.R_base ho58) hb); replace BK19 := bkB BK19 hb; replace BK38 := bkB BK38 hb; replace BK60 := bkB BK60 hb; replace HB := hbS HB hb; clear hb ho58; obtain ⟨Ao59, co59, eo59⟩ := Kd.R_slice HO71.out; subst eo59) | (go_at_call 20; (with_reducible refine (q22z.calls k _ _ t53 _ _ y69 t72 _ ?side1 ?side2 ?side3 ?side4 A8.out).mono ?_); (case side1 => repeat (first | exact (Kd.R_reads' HO55.out).2.2 | (with_reducible refine Kd.C_alloc ?_ _) | (with_reducible refine Kd.C_drewN ?_ _) | (with_reducible refine Kd.C_drew ?_))); (case side2 => exact (Kd.R_reads' HO55.out).2.1); (case side3 => repeat (first | exact (Kd.R_reads' HO71.out).2.2 | (with_reducible refine Kd.C_alloc ?_ _) | (with_reducible refine Kd.C_drewN ?_ _) | (with_reducible refine Kd.C_drew ?_))); (case side4 => exact (Kd.R_reads' HO71.out).2.1); rintro e w' ⟨rfl, ⟨nd, rfl⟩⟩))
   go_ret
   exact ⟨by first | rfl | (simp [errW_none, errW_some] <;> rfl) | (simp [*, errW_none, errW_some] <;> rfl), hbW HB⟩
  ·
   replace c7 := Bool.eq_false_iff.mpr c7
   subst c7
   have H1 : (some false) = some r := by rw [if_neg (show ¬ (false = true) by decide)] at H; exact H
   clear H
   have H := H1
   clear H1
   obtain rfl := Option.some.inj H
   go_wp2_with (first | ((with_reducible refine gate_dst (N := 24) rfl ?_); (try (refine gate_guard (by rfl) ?_; dsimp only)); refine Kd.R_lit (Kd.int .u32) _ 22 ?hg (N := 24) ?hd (xs := ([1, 2, 3] : List Int)) (inner := [.int .u32 1, .int .u32 2, .int .u32 3]) (ok := fun _ => True) (okp := fun _ => True) ?hr ?hp (fun _ hk => hk) trivial (Below.refl _ _) (Nat.le_refl _) (by simp) ?_; (case hd => rfl); (case hg => rfl); (case hr => first | (go_simp; done) | (go_simp; rfl)); (case hp => exact (Reps.one (show Kd.M (Kd.int .u32) _ _ _ 1 [.int .u32 1] from rfl) (Reps.one (show Kd.M (Kd.int .u32) _ _ _ 2 [.int .u32 2] from rfl) (Reps.one (show Kd.M (Kd.int .u32) _ _ _ 3 [.int .u32 3] from rfl) (Reps.none _ _))))); intro v62 w100 ho101 hb hg_ hnew_; clear hg_ hnew_; (first | rw [← Ny61.out] at ho101 | (simp only [Int.reduceToNat] at ho101; rw [← Ny61.out] at ho101)); have HO63 := Aside0.mk (Kd.R_lower (Kd.R_new' (Kd.R_new' (Kd.R_new' (Kd.R_new' (Kd.R_new' (Kd.R_new' (Kd.R_new' (Kd.R_new' (Kd.R_new' (Kd.R_new' (Kd.R_new' ho101 (Kd.R_lt (rW HO3))) (Kd.R_lt (rW HO6))) (Kd.R_lt (rW HO11))) (Kd.R_lt (rW HO14))) (Kd.R_lt (rW HO22))) (Kd.R_lt (rW HO25))) (Kd.R_lt (rW HO30))) (Kd.R_lt (rW HO33))) (Kd.R_lt (rW HO47))) (Kd.R_lt (rW HO52))) (Kd.R_lt (rW HO55))) (below_size (hbW HB))); replace HO3 := Aside0.mk (Kd.R_elder' (rW HO3) (Kd.R_base ho101) hb); replace HO6 := Aside0.mk (Kd.R_elder' (rW HO6) (Kd.R_base ho101) hb); replace HO11 := Aside0.mk (Kd.R_elder' (rW HO11) (Kd.R_base ho101) hb); replace HO14 := Aside0.mk (Kd.R_elder' (rW HO14) (Kd.R_base ho101) hb); replace HO22 := Aside0.mk (Kd.R_elder' (rW HO22) (Kd.R_base ho101) hb); replace HO25 := Aside0.mk (Kd.R_elder' (rW HO25) (Kd.R_base ho101) hb); replace HO30 := Aside0.mk (Kd.R_elder' (rW HO30) (Kd.R_base ho101) hb); replace HO33 := Aside0.mk (Kd.R_elder' (rW HO33) (Kd.R_base ho101) hb); replace HO44 := Aside0.mk (Kd.N_elder' (by (with_reducible repeat (first | apply Kd.N_alloc | apply Kd.N_drewN | apply Kd.N_drew)); exact (Kd.N_mono (Kd.N_far (p := ⟨gb60, 7, none⟩) (Kd.N_far (p := ⟨gb60, 6, none⟩) (Kd.N_far (p := ⟨gb60, 5, none⟩) (Kd.N_far (p := ⟨gb60, 4, none⟩) (Kd.N_far (p := ⟨gb60, 3, none⟩) (Kd.N_far (p := ⟨gb60, 2, none⟩) (Kd.N_far (p := ⟨gb60, 1, none⟩) (Kd.N_far (p := ⟨gb60, 0, none⟩) (Kd.N_mono HO44.out (fun k_ hk => (⟨hk, hk.2⟩ : _ ∧ k_ ≠ gb60))) (fun _ hk => hk.2) (.int .u32 t48)) (fun _ hk => hk.2) (.int .i64 t49)) (fun _ hk => hk.2) (.slice Ao46 t50.length co46)) (fun _ hk => hk.2) (.slice Ao47 t53.length co47)) (fun _ hk => hk.2) (.int .u32 t56)) (fun _ hk => hk.2) (.int .u32 t57)) (fun _ hk => hk.2) (.int .i64 t58)) (fun _ hk => hk.2) (.int .u32 t59)) (fun _ h_ => h_.1))) (Kd.R_base ho101) hb); replace HO47 := Aside0.mk (Kd.R_elder' (rW HO47) (Kd.R_base ho101) hb); replace HO52 := Aside0.mk (Kd.R_elder' (rW HO52) (Kd.R_base ho101) hb); replace HO55 := Aside0.mk (Kd.R_elder' (rW HO55) (Kd.R_base ho101) hb); replace BK19 := bvB BK19 hb; replace BK38 := bvB BK38 hb; replace BK60 := Aside0.mk (blk_below (g := gb60) (o := .cells #[.int .u32 t48, .int .i64 t49, .slice Ao46 t50.length co46, .slice Ao47 t53.length co47, .int .u32 t56, .int .u32 t57, .int .i64 t58, .int .u32 t59] 30 (0, 0)) (bp8 BK60) hb); replace HB := hbS HB hb; clear hb ho101; obtain ⟨Ao102, co102, eo102⟩ := Kd.R_slice HO63.out; subst eo102) | ((with_reducible refine gate_callee (f := 20) rfl ?_); refine goesL_ (some 25) rfl rfl Try.func20 (by kernel_rfl) rfl #[.slice Ao18 t9.length co18, .slice Ao102 y61.length co102] rfl (by (try simp only [List.map_toArray, List.map_cons, List.map_nil]); first | done | rfl | (simp only [List.length_drop, List.length_take]; rfl)) ?_; (with_reducible refine (q22z.calls k _ _ t9 _ _ y61 true _ ?side1 ?side2 ?side3 ?side4 A4.out).mono ?_); (case side1 => repeat (first | exact (Kd.R_reads' HO11.out).2.2 | (with_reducible refine Kd.C_alloc ?_ _) | (with_reducible refine Kd.C_drewN ?_ _) | (with_reducible refine Kd.C_drew ?_))); (case side2 => exact (Kd.R_reads' HO11.out).2.1); (case side3 => repeat (first | exact (Kd.R_reads' HO63.out).2.2 | (with_reducible refine Kd.C_alloc ?_ _) | (with_reducible refine Kd.C_drewN ?_ _) | (with_reducible refine Kd.C_drew ?_))); (case side4 => exact (Kd.R_reads' HO63.out).2.1); rintro e w' ⟨rfl, ⟨nd, rfl⟩⟩; refine ⟨_, rfl, ?_⟩; obtain ⟨hcz103_0, hcz103_1, hcz103_2, hcz103_3, hcz103_4, hcz103_5, hcz103_6, hcz103_7, hfz103_0, hfz103_1, hfz103_2, hfz103_3, hfz103_4, hfz103_5, hfz103_6, hfz103_7⟩ := bc8 BK38) | ((with_reducible refine gate_dst (N := 29) rfl ?_); (try (refine gate_guard (by rfl) ?_; dsimp only)); refine Kd.R_lit (Kd.int .u32) _ 22 ?hg (N := 29) ?hd (xs := ([3, 4, 5] : List Int)) (inner := [.int .u32 3, .int .u32 4, .int .u32 5]) (ok := fun _ => True) (okp := fun _ => True) ?hr ?hp (fun _ hk => hk) trivial (Below.refl _ _) (Nat.le_refl _) (by simp) ?_; (case hd => rfl); (case hg => rfl); (case hr => first | (go_simp; done) | (go_simp; rfl)); (case hp => exact (Reps.one (show Kd.M (Kd.int .u32) _ _ _ 3 [.int .u32 3] from rfl) (Reps.one (show Kd.M (Kd.int .u32) _ _ _ 4 [.int .u32 4] from rfl) (Reps.one (show Kd.M (Kd.int .u32) _ _ _ 5 [.int .u32 5] from rfl) (Reps.none _ _))))); intro v66 w104 ho105 hb hg_ hnew_; clear hg_ hnew_; (first | rw [← Ny65.out] at ho105 | (simp only [Int.reduceToNat] at ho105; rw [← Ny65.out] at ho105)); have HO67 := Aside0.mk (Kd.R_lower (Kd.R_new' (Kd.R_new' (Kd.R_new' (Kd.R_new' (Kd.R_new' (Kd.R_new' (Kd.R_new' (Kd.R_new' (Kd.R_new' (Kd.R_new' (Kd.R_new' (Kd.R_new' ho105 (Kd.R_lt (rW HO3))) (Kd.R_lt (rW HO6))) (Kd.R_lt (rW HO11))) (Kd.R_lt (rW HO14))) (Kd.R_lt (rW HO22))) (Kd.R_lt (rW HO25))) (Kd.R_lt (rW HO30))) (Kd.R_lt (rW HO33))) (Kd.R_lt (rW HO47))) (Kd.R_lt (rW HO52))) (Kd.R_lt (rW HO55))) (Kd.R_lt (rW HO63))) (below_size (hbW HB))); replace HO3 := Aside0.mk (Kd.R_elder' (rW HO3) (Kd.R_base ho105) hb); replace HO6 := Aside0.mk (Kd.R_elder' (rW HO6) (Kd.R_base ho105) hb); replace HO11 := Aside0.mk (Kd.R_elder' (rW HO11) (Kd.R_base ho105) hb); replace HO14 := Aside0.mk (Kd.R_elder' (rW HO14) (Kd.R_base ho105) hb); replace HO22 := Aside0.mk (Kd.R_elder' (rW HO22) (Kd.R_base ho105) hb); replace HO25 := Aside0.mk (Kd.R_elder' (rW HO25) (Kd.R_base ho105) hb); replace HO30 := Aside0.mk (Kd.R_elder' (rW HO30) (Kd.R_base ho105) hb); replace HO33 := Aside0.mk (Kd.R_elder' (rW HO33) (Kd.R_base ho105) hb); replace HO44 := Aside0.mk (Kd.N_elder' (by (with_reducible repeat (first | apply Kd.N_alloc | apply Kd.N_drewN | apply Kd.N_drew)); exact HO44.out) (Kd.R_base ho105) hb); replace HO47 := Aside0.mk (Kd.R_elder' (rW HO47) (Kd.R_base ho105) hb); replace HO52 := Aside0.mk (Kd.R_elder' (rW HO52) (Kd.R_base ho105) hb); replace HO55 := Aside0.mk (Kd.R_elder' (rW HO55) (Kd.R_base ho105) hb); replace HO63 := Aside0.mk (Kd.R_elder' (rW HO63) (Kd.R_base ho105) hb); replace BK19 := bkB BK19 hb; replace BK38 := bkB BK38 hb; replace BK60 := bkB BK60 hb; replace HB := hbS HB hb; clear hb ho105; obtain ⟨Ao106, co106, eo106⟩ := Kd.R_slice HO67.out; subst eo106) | (go_at_call 20; (with_reducible refine (q22z.calls k _ _ t31 _ _ y65 false _ ?side1 ?side2 ?side3 ?side4 A6.out).mono ?_); (case side1 => repeat (first | exact (Kd.R_reads' HO33.out).2.2 | (with_reducible refine Kd.C_alloc ?_ _) | (with_reducible refine Kd.C_drewN ?_ _) | (with_reducible refine Kd.C_drew ?_))); (case side2 => exact (Kd.R_reads' HO33.out).2.1); (case side3 => repeat (first | exact (Kd.R_reads' HO67.out).2.2 | (with_reducible refine Kd.C_alloc ?_ _) | (with_reducible refine Kd.C_drewN ?_ _) | (with_reducible refine Kd.C_drew ?_))); (case side4 => exact (Kd.R_reads' HO67.out).2.1); rintro e w' ⟨rfl, ⟨nd, rfl⟩⟩))
   go_ret
   exact ⟨by first | rfl | (simp [errW_none, errW_some] <;> rfl) | (simp [*, errW_none, errW_some] <;> rfl), hbW HB⟩
 ·
  replace c5 := Bool.eq_false_iff.mpr c5
  subst c5
  have H1 : (some false) = some r := by rw [if_neg (show ¬ (false = true) by decide)] at H; exact H
  clear H
  have H := H1
  clear H1
  obtain rfl := Option.some.inj H
  go_wp2_with (first | ((with_reducible refine gate_dst (N := 24) rfl ?_); (try (refine gate_guard (by rfl) ?_; dsimp only)); refine Kd.R_lit (Kd.int .u32) _ 22 ?hg (N := 24) ?hd (xs := ([1, 2, 3] : List Int)) (inner := [.int .u32 1, .int .u32 2, .int .u32 3]) (ok := fun _ => True) (okp := fun _ => True) ?hr ?hp (fun _ hk => hk) trivial (Below.refl _ _) (Nat.le_refl _) (by simp) ?_; (case hd => rfl); (case hg => rfl); (case hr => first | (go_simp; done) | (go_simp; rfl)); (case hp => exact (Reps.one (show Kd.M (Kd.int .u32) _ _ _ 1 [.int .u32 1] from rfl) (Reps.one (show Kd.M (Kd.int .u32) _ _ _ 2 [.int .u32 2] from rfl) (Reps.one (show Kd.M (Kd.int .u32) _ _ _ 3 [.int .u32 3] from rfl) (Reps.none _ _))))); intro v62 w147 ho148 hb hg_ hnew_; clear hg_ hnew_; (first | rw [← Ny61.out] at ho148 | (simp only [Int.reduceToNat] at ho148; rw [← Ny61.out] at ho148)); have HO63 := Aside0.mk (Kd.R_lower (Kd.R_new' (Kd.R_new' (Kd.R_new' (Kd.R_new' (Kd.R_new' (Kd.R_new' (Kd.R_new' (Kd.R_new' (Kd.R_new' (Kd.R_new' (Kd.R_new' ho148 (Kd.R_lt (rW HO3))) (Kd.R_lt (rW HO6))) (Kd.R_lt (rW HO11))) (Kd.R_lt (rW HO14))) (Kd.R_lt (rW HO22))) (Kd.R_lt (rW HO25))) (Kd.R_lt (rW HO30))) (Kd.R_lt (rW HO33))) (Kd.R_lt (rW HO47))) (Kd.R_lt (rW HO52))) (Kd.R_lt (rW HO55))) (below_size (hbW HB))); replace HO3 := Aside0.mk (Kd.R_elder' (rW HO3) (Kd.R_base ho148) hb); replace HO6 := Aside0.mk (Kd.R_elder' (rW HO6) (Kd.R_base ho148) hb); replace HO11 := Aside0.mk (Kd.R_elder' (rW HO11) (Kd.R_base ho148) hb); replace HO14 := Aside0.mk (Kd.R_elder' (rW HO14) (Kd.R_base ho148) hb); replace HO22 := Aside0.mk (Kd.R_elder' (rW HO22) (Kd.R_base ho148) hb); replace HO25 := Aside0.mk (Kd.R_elder' (rW HO25) (Kd.R_base ho148) hb); replace HO30 := Aside0.mk (Kd.R_elder' (rW HO30) (Kd.R_base ho148) hb); replace HO33 := Aside0.mk (Kd.R_elder' (rW HO33) (Kd.R_base ho148) hb); replace HO44 := Aside0.mk (Kd.N_elder' (by (with_reducible repeat (first | apply Kd.N_alloc | apply Kd.N_drewN | apply Kd.N_drew)); exact (Kd.N_mono (Kd.N_far (p := ⟨gb60, 7, none⟩) (Kd.N_far (p := ⟨gb60, 6, none⟩) (Kd.N_far (p := ⟨gb60, 5, none⟩) (Kd.N_far (p := ⟨gb60, 4, none⟩) (Kd.N_far (p := ⟨gb60, 3, none⟩) (Kd.N_far (p := ⟨gb60, 2, none⟩) (Kd.N_far (p := ⟨gb60, 1, none⟩) (Kd.N_far (p := ⟨gb60, 0, none⟩) (Kd.N_mono HO44.out (fun k_ hk => (⟨hk, hk.2⟩ : _ ∧ k_ ≠ gb60))) (fun _ hk => hk.2) (.int .u32 t48)) (fun _ hk => hk.2) (.int .i64 t49)) (fun _ hk => hk.2) (.slice Ao46 t50.length co46)) (fun _ hk => hk.2) (.slice Ao47 t53.length co47)) (fun _ hk => hk.2) (.int .u32 t56)) (fun _ hk => hk.2) (.int .u32 t57)) (fun _ hk => hk.2) (.int .i64 t58)) (fun _ hk => hk.2) (.int .u32 t59)) (fun _ h_ => h_.1))) (Kd.R_base ho148) hb); replace HO47 := Aside0.mk (Kd.R_elder' (rW HO47) (Kd.R_base ho148) hb); replace HO52 := Aside0.mk (Kd.R_elder' (rW HO52) (Kd.R_base ho148) hb); replace HO55 := Aside0.mk (Kd.R_elder' (rW HO55) (Kd.R_base ho148) hb); replace BK19 := bvB BK19 hb; replace BK38 := bvB BK38 hb; replace BK60 := Aside0.mk (blk_below (g := gb60) (o := .cells #[.int .u32 t48, .int .i64 t49, .slice Ao46 t50.length co46, .slice Ao47 t53.length co47, .int .u32 t56, .int .u32 t57, .int .i64 t58, .int .u32 t59] 30 (0, 0)) (bp8 BK60) hb); replace HB := hbS HB hb; clear hb ho148; obtain ⟨Ao149, co149, eo149⟩ := Kd.R_slice HO63.out; subst eo149) | ((with_reducible refine gate_callee (f := 20) rfl ?_); refine goesL_ (some 25) rfl rfl Try.func20 (by kernel_rfl) rfl #[.slice Ao18 t9.length co18, .slice Ao149 y61.length co149] rfl (by (try simp only [List.map_toArray, List.map_cons, List.map_nil]); first | done | rfl | (simp only [List.length_drop, List.length_take]; rfl)) ?_; (with_reducible refine (q22z.calls k _ _ t9 _ _ y61 false _ ?side1 ?side2 ?side3 ?side4 A4.out).mono ?_); (case side1 => repeat (first | exact (Kd.R_reads' HO11.out).2.2 | (with_reducible refine Kd.C_alloc ?_ _) | (with_reducible refine Kd.C_drewN ?_ _) | (with_reducible refine Kd.C_drew ?_))); (case side2 => exact (Kd.R_reads' HO11.out).2.1); (case side3 => repeat (first | exact (Kd.R_reads' HO63.out).2.2 | (with_reducible refine Kd.C_alloc ?_ _) | (with_reducible refine Kd.C_drewN ?_ _) | (with_reducible refine Kd.C_drew ?_))); (case side4 => exact (Kd.R_reads' HO63.out).2.1); rintro e w' ⟨rfl, ⟨nd, rfl⟩⟩; refine ⟨_, rfl, ?_⟩))
  go_ret
  exact ⟨by first | rfl | (simp [errW_none, errW_some] <;> rfl) | (simp [*, errW_none, errW_some] <;> rfl), hbW HB⟩

/-! ### dragomanref05_Size: function 40 -/
mutual
def q26z.l0 : Nat → Int → Int → List (S74) → Int → Int → Option (Int × Int)
 | 0, _, _, _, _, _ => none
 | k + 1, x4, x5, x11, x12, x13 => if x13 < x12 then (if 0 ≤ x13 then (if x13 < (x11.length : Int) then ((q26z.f k ((rd_T74 x11 x13).f0) ((rd_T74 x11 x13).f1) ((rd_T74 x11 x13).f2)).bind fun bt4 => (q26z.l0 k (mn (wrap64 (x4 + bt4.1)) 1000000) (mx x5 bt4.2) x11 x12 (wrap64 (x13 + 1)))) else (none)) else (none)) else (some (x4, wrap64 (x5 + 1)))
def q26z.f : Nat → Int → List (S152) → List (S74) → Option (Int × Int)
 | 0, _, _, _ => none
 | k + 1, a0_0, l0_1, l0_2 => q26z.l0 k 1 0 l0_2 (l0_2.length : Int) 0
end
theorem q26z.mono_l : ∀ k, (∀ y0 y1 y2, LeO (q26z.f k y0 y1 y2) (q26z.f (k + 1) y0 y1 y2)) ∧ (∀ y0 y1 y2 y3 y4, LeO (q26z.l0 k y0 y1 y2 y3 y4) (q26z.l0 (k + 1) y0 y1 y2 y3 y4))
 | 0 => ⟨fun _ _ _ r h => by simp [q26z.f] at h, fun _ _ _ _ _ r h => by simp [q26z.l0] at h⟩
 | k + 1 => by
  obtain ⟨ih0, ih1⟩ := q26z.mono_l k
  refine ⟨?_, ?_⟩
  ·
   intro y0 y1 y2
   unfold q26z.f
   repeat' first
   | (with_reducible exact ih0 _ _ _)
   | (with_reducible exact ih1 _ _ _ _ _)
   | (with_reducible exact LeO.refl _)
   | (with_reducible exact LeO.none _)
   | (with_reducible refine LeO.ite ?_ ?_)
   | (with_reducible refine LeO.bind ?_ (fun _ => ?_))
   | exact ih0 _ _ _
   | exact ih1 _ _ _ _ _
   | exact LeO.none _
   | refine LeO.ite ?_ ?_
   | refine LeO.bind ?_ (fun _ => ?_)
  ·
   intro y0 y1 y2 y3 y4
   unfold q26z.l0
   repeat' first
   | (with_reducible exact ih0 _ _ _)
   | (with_reducible exact ih1 _ _ _ _ _)
   | (with_reducible exact LeO.refl _)
   | (with_reducible exact LeO.none _)
   | (with_reducible refine LeO.ite ?_ ?_)
   | (with_reducible refine LeO.bind ?_ (fun _ => ?_))
   | exact ih0 _ _ _
   | exact ih1 _ _ _ _ _
   | exact LeO.none _
   | refine LeO.ite ?_ ?_
   | refine LeO.bind ?_ (fun _ => ?_)
theorem q26z.mono : ∀ a0 a1 a2 k, LeO (q26z.f k a0 a1 a2) (q26z.f (k + 1) a0 a1 a2) := by
 intro a0 a1 a2 k
 obtain ⟨ih0, ih1⟩ := q26z.mono_l k
 exact ih0 a0 a1 a2
set_option maxHeartbeats 8000000 in
set_option maxRecDepth 100000 in
theorem q26z.calls (k : Nat) : ∀ (a0_0 : Int) (A0_1 : Option Addr) (c0_1 : Nat) (l0_1 : List (S152)) (A0_2 : Option Addr) (c0_2 : Nat) (l0_2 : List (S74)) (r1 : Int) (r2 : Int) (w : World) (hr0_1 : Kd.C k152 w A0_1 l0_1.length l0_1) (hc0_1 : l0_1.length ≤ c0_1) (hr0_2 : Kd.C k74 w A0_2 l0_2.length l0_2) (hc0_2 : l0_2.length ≤ c0_2) (h : q26z.f k a0_0 l0_1 l0_2 = some (r1, r2)),
  Calls Try.prog 40 #[.agg #[.int .i64 a0_0, .slice A0_1 l0_1.length c0_1, .slice A0_2 l0_2.length c0_2]] w fun e w' => e = .returned (.tuple #[.int .i64 r1, .int .i64 r2]) ∧ Below w.heap.size w w' := by
 induction k using Nat.strongRecOn with
 | _ k ih =>
 intro a0_0 A0_1 c0_1 l0_1 A0_2 c0_2 l0_2 r1 r2 w hr0_1 hc0_1 hr0_2 hc0_2 h
 cases k with
 | zero => exact absurd h (by simp [q26z.f])
 | succ k =>
 simp only [q26z.f] at h
 have hu74 := Try.underlying74
 have HR0_1 := Aside0.mk hr0_1
 have HC0_1 := Aside0.mk hc0_1
 clear hr0_1 hc0_1
 have HR0_2 := Aside0.mk hr0_2
 have HC0_2 := Aside0.mk hc0_2
 clear hr0_2 hc0_2
 have HB := Aside0.mk (Below.refl w.heap.size w)
 have H : (q26z.l0 k 1 0 l0_2 (l0_2.length : Int) 0) = some (r1, r2) := h
 clear h
 have H' := Aside0.mk H
 clear H
 go_enter Try.func40, Try.ntmps40
 go_wp2_with (first | ((with_reducible refine gate_dst (N := 1) rfl ?_); refine box_event ?hg (N := 1) ?hd (cs := #[.int .i64 a0_0, .slice A0_1 l0_1.length c0_1, .slice A0_2 l0_2.length c0_2]) (t := 74) ?hr ?_; (case hd => rfl); (case hg => rfl); (case hr => first | (go_simp; done) | (go_simp; rfl)); intro gb1 hg w2 hbox hb; have BK1 := Aside0.mk (hbox); have GW1 := gwS hg HB; have GE1 := gwS hg HB; replace HB := hbS HB hb; clear hb hbox hg; obtain ⟨hcz3_0, hcz3_1, hcz3_2, hfz3_0, hfz3_1, hfz3_2⟩ := bc3 BK1))
 go_loopg [4, 5, 13] k (fun kq v4 v5 v13 w' => ∃ (x4_1 : Int) (x5_1 : Int) (x13_1 : Int), v4 = .int .i64 x4_1 ∧ v5 = .int .i64 x5_1 ∧ v13 = .int .i64 x13_1 ∧ Aside0 (q26z.l0 kq x4_1 x5_1 l0_2 (l0_2.length : Int) x13_1 = some (r1, r2)) ∧ Aside0 (kq ≤ k) ∧ Aside0 (w'.heap[gb1]? = some (.cells #[.int .i64 a0_0, (.slice A0_1 l0_1.length c0_1), (.slice A0_2 l0_2.length c0_2)] 74 (0, 0))) ∧ Aside0 (Below w.heap.size w w'))
 case atStart => exact ⟨(1), (0), (0), (by first | rfl | (simp; done) | (simp [*]; done)), (by first | rfl | (simp; done) | (simp [*]; done)), (by first | rfl | (simp; done) | (simp [*]; done)), H', ⟨Nat.le_refl _⟩, ⟨by (with_reducible repeat (first | refine blk_drewN ?_ _ | refine blk_drew ?_ | refine blk_alloc ?_ _)); exact BK1.out⟩, ⟨hbW HB⟩⟩
 case round =>
  clear H'
  try clear p2
  try clear hcz3_0 hcz3_1 hcz3_2
  try clear hfz3_0 hfz3_1 hfz3_2
  obtain ⟨x4_1, x5_1, x13_1, rfl, rfl, rfl, HA, HK1, BK1, HB⟩ := hrel
  cases gk with
  | zero => exact absurd HA.out (by simp [q26z.l0])
  | succ k1 =>
   have H := HA.out
   clear HA
   simp only [q26z.l0] at H
   by_cases c4 : x13_1 < (l0_2.length : Int)
   ·
    rw [if_pos c4] at H
    have c4b0 : decide (x13_1 < (l0_2.length : Int)) = true := decide_eq_true c4
    clear c4
    by_cases c5 : 0 ≤ x13_1
    ·
     rw [if_pos c5] at H
     have c5b0 : decide (0 ≤ x13_1) = true := decide_eq_true c5
     clear c5
     by_cases c6 : x13_1 < (l0_2.length : Int)
     ·
      rw [if_pos c6] at H
      have c6b0 : decide (x13_1 < (l0_2.length : Int)) = true := decide_eq_true c6
      clear c6
      replace H := Option.bind_eq_some_iff.mp H
      obtain ⟨⟨t4, t5⟩, A70, H⟩ := H
      replace H : (q26z.l0 k1 (mn (wrap64 (x4_1 + t4)) 1000000) (mx x5_1 t5) l0_2 (l0_2.length : Int) (wrap64 (x13_1 + 1))) = some (r1, r2) := H
      have A7 := Aside0.mk A70
      clear A70
      obtain ⟨ji8, hji8⟩ : ∃ j_ : Int, (mn (wrap64 (x4_1 + t4)) 1000000) = j_ := ⟨_, rfl⟩
      replace H : (q26z.l0 k1 ji8 (mx x5_1 t5) l0_2 (l0_2.length : Int) (wrap64 (x13_1 + 1))) = some (r1, r2) := by first | (rw [hji8] at H; exact H) | (simp only [hji8] at H ⊢; exact H)
      (try rw [hji8] at A7)
      have hji8_ : (if 1000000 < (wrap64 (x4_1 + t4)) then 1000000 else (wrap64 (x4_1 + t4))) = ji8 := hji8
      obtain ⟨ji9, hji9⟩ : ∃ j_ : Int, (mx x5_1 t5) = j_ := ⟨_, rfl⟩
      replace H : (q26z.l0 k1 ji8 ji9 l0_2 (l0_2.length : Int) (wrap64 (x13_1 + 1))) = some (r1, r2) := by first | (rw [hji9] at H; exact H) | (simp only [hji9] at H ⊢; exact H)
      (try rw [hji9] at A7)
      have hji9_ : (if x5_1 < t5 then t5 else x5_1) = ji9 := hji9
      have H' := Aside0.mk H
      clear H
      have p2 : 0 ≤ (x13_1 : Int) := of_decide_eq_true (by first | (with_reducible assumption) | assumption)
      have q2 : x13_1 < (l0_2.length : Int) := of_decide_eq_true (by first | (with_reducible assumption) | assumption)
      obtain ⟨ad2, A2_1, c2_1, A2_2, c2_2, e2, hx2_0, hx2_1, hx2_2, hl2_1, hi2_1, hl2_2, hi2_2⟩ := at_T74 HR0_2.out x13_1 p2 q2
      cases e2
      replace hx2_0 := (HB.out.cell (World.block_lt_of_cell? w _ hx2_0)).trans hx2_0
      replace hx2_1 := (HB.out.cell (World.block_lt_of_cell? w _ hx2_1)).trans hx2_1
      replace hx2_2 := (HB.out.cell (World.block_lt_of_cell? w _ hx2_2)).trans hx2_2
      have HR2_1 := Aside0.mk hi2_1
      have HC2_1 := Aside0.mk hl2_1
      clear hi2_1 hl2_1
      have HR2_2 := Aside0.mk hi2_2
      have HC2_2 := Aside0.mk hl2_2
      clear hi2_2 hl2_2
      replace p2 := eq_true p2
      replace q2 := eq_true q2
      go_wp2_with (first | ((with_reducible refine gate_dst (N := 7) rfl ?_); refine box_event ?hg (N := 7) ?hd (cs := #[.int .i64 0, .slice none 0 0, .slice none 0 0]) (t := 74) ?hr ?_; (case hd => rfl); (case hg => rfl); (case hr => first | (go_simp; done) | (go_simp; rfl)); intro gb3 hg w10 hbox hb; have BK3 := Aside0.mk (hbox); have GW3 := gwS hg HB; have GE3 := gwS hg HB; have NB1_3 := nbL hg BK1; have NB3_1 := nbG hg BK1; replace BK1 := bkB BK1 hb; replace HB := hbS HB hb; clear hb hbox hg; have hnb11 := NB3_1.out; have hnc11 := NB1_3.out; obtain ⟨hcz12_0, hcz12_1, hcz12_2, hfz12_0, hfz12_1, hfz12_2⟩ := bc3 BK3) | ((with_reducible refine gate_callee (f := 40) rfl ?_); refine goesL_ (some 19) rfl rfl Try.func40 (by kernel_rfl) rfl #[.agg #[.int .i64 ((rd_T74 l0_2 x13_1).f0), .slice A2_1 ((rd_T74 l0_2 x13_1).f1).length c2_1, .slice A2_2 ((rd_T74 l0_2 x13_1).f2).length c2_2]] rfl (by (try simp only [List.map_toArray, List.map_cons, List.map_nil]); first | done | rfl | (simp only [List.length_drop, List.length_take]; rfl)) ?_; (with_reducible refine (ih k1 (by have := HK1.out; omega) ((rd_T74 l0_2 x13_1).f0) _ _ ((rd_T74 l0_2 x13_1).f1) _ _ ((rd_T74 l0_2 x13_1).f2) t4 t5 _ ?side1 ?side2 ?side3 ?side4 A7.out).mono ?_); (case side1 => exact Kd.C_below HR2_1.out (hbW HB)); (case side2 => exact HC2_1.out); (case side3 => exact Kd.C_below HR2_2.out (hbW HB)); (case side4 => exact HC2_2.out); rintro e w13 ⟨rfl, hb⟩; refine ⟨_, rfl, ?_⟩; replace BK1 := bvB BK1 hb; replace BK3 := Aside0.mk (blk_below (g := gb3) (o := .cells #[.int .i64 ((rd_T74 l0_2 x13_1).f0), .slice A2_1 ((rd_T74 l0_2 x13_1).f1).length c2_1, .slice A2_2 ((rd_T74 l0_2 x13_1).f2).length c2_2] 74 (0, 0)) (bp3 BK3) hb); replace HB := hbS HB hb; (try clear hb)))
      go_roundg k1
      case measure => have := HK1.out; omega
      case rel => exact ⟨(ji8), (ji9), (wrap64 (x13_1 + 1)), (by first | rfl | (simp; done) | (simp only [← hji8] <;> (first | rfl | simp)) | (simp [*]; done)), (by first | rfl | (simp; done) | (simp only [← hji9] <;> (first | rfl | simp)) | (simp [*]; done)), (by first | rfl | (simp; done) | (simp [*]; done)), H', ⟨by have := HK1.out; omega⟩, ⟨by (with_reducible repeat (first | refine blk_drewN ?_ _ | refine blk_drew ?_ | refine blk_alloc ?_ _)); exact BK1.out⟩, ⟨hbW HB⟩⟩
     ·
      rw [if_neg c6] at H
      exact absurd H (by simp)
    ·
     rw [if_neg c5] at H
     exact absurd H (by simp)
   ·
    rw [if_neg c4] at H
    have c4b0 : decide (x13_1 < (l0_2.length : Int)) = false := decide_eq_false c4
    clear c4
    simp only [Option.some.injEq, Prod.mk.injEq] at H
    obtain ⟨rfl, rfl⟩ := H
    go_wp2
    go_ret2
    exact ⟨by first | rfl | (simp [errW_none, errW_some] <;> rfl) | (simp [*, errW_none, errW_some] <;> rfl), hbW HB⟩

end Go.Proofs.Ytgelpccjdndfoaa.P
