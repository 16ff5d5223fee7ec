/- Part of the proof of the law SpanCuts: the functions that it reaches, by contract. -/
import Derived.Test.YtconaifcjnpabaaCSpanCuts0
namespace Go.Proofs.Ytconaifcjnpabaa.P
open Go.RowKit Go.Proofs.YtconaifcjnpabaaW.PrintWords Go.Proofs.YtconaifcjnpabaaW.PrintLast Go.Proofs.YtconaifcjnpabaaW.PrintMore
attribute [local go_sem] max2_int min2_int max_two min_two max_three min_three max_four min_four
set_option linter.unusedVariables false
set_option linter.unusedSimpArgs false

/-! ### span_Norm: function 14 -/
mutual
def q2z.l0 : Nat → List (S33) → List (S33) → Int → Int → Option ((List (S33)))
 | 0, _, _, _, _ => none
 | k + 1, x3, x10, x11, x12 => if x12 < x11 then (if 0 ≤ x12 then (if x12 < (x10.length : Int) then (if ((rd_T33 x10 x12).f0) ≤ ((rd_T33 x10 x12).f1) then (if x3.length < 17592186044416 then (q2z.l0 k (x3 ++ [(⟨(rd_T33 x10 x12).f0, (rd_T33 x10 x12).f1⟩ : S33)]) x10 x11 (wrap64 (x12 + 1))) else (none)) else (q2z.l0 k x3 x10 x11 (wrap64 (x12 + 1)))) else (none)) else (none)) else ((SortFunc_Span.f x3).bind fun t6 => (q2z.l1 k ([] : List (S33)) t6 (x3.length : Int) 0))
def q2z.l1 : Nat → List (S33) → List (S33) → Int → Int → Option ((List (S33)))
 | 0, _, _, _, _ => none
 | k + 1, x6, x28, x29, x30 => if x30 < x29 then (if 0 ≤ x30 then (if x30 < (x28.length : Int) then (if (x6.length : Int) > 0 then (if 0 ≤ (wrap64 ((x6.length : Int) - 1)) then (if (wrap64 ((x6.length : Int) - 1)) < (x6.length : Int) then (if ((rd_T33 x6 (wrap64 ((x6.length : Int) - 1))).f1) = 4294967295 then (q2z.l1 k (x6.set ((wrap64 ((x6.length : Int) - 1)) : Int).toNat (⟨(rd_T33 x6 (wrap64 ((x6.length : Int) - 1))).f0, mx ((rd_T33 x6 (wrap64 ((x6.length : Int) - 1))).f1) ((rd_T33 x28 x30).f1)⟩ : S33)) x28 x29 (wrap64 (x30 + 1))) else (if ((rd_T33 x28 x30).f0) ≤ ((((rd_T33 x6 (wrap64 ((x6.length : Int) - 1))).f1) + 1) % 4294967296) then (q2z.l1 k (x6.set ((wrap64 ((x6.length : Int) - 1)) : Int).toNat (⟨(rd_T33 x6 (wrap64 ((x6.length : Int) - 1))).f0, mx ((rd_T33 x6 (wrap64 ((x6.length : Int) - 1))).f1) ((rd_T33 x28 x30).f1)⟩ : S33)) x28 x29 (wrap64 (x30 + 1))) else (if x6.length < 17592186044416 then (q2z.l1 k (x6 ++ [(⟨(rd_T33 x28 x30).f0, (rd_T33 x28 x30).f1⟩ : S33)]) x28 x29 (wrap64 (x30 + 1))) else (none)))) else (none)) else (none)) else (if x6.length < 17592186044416 then (q2z.l1 k (x6 ++ [(⟨(rd_T33 x28 x30).f0, (rd_T33 x28 x30).f1⟩ : S33)]) x28 x29 (wrap64 (x30 + 1))) else (none))) else (none)) else (none)) else (some x6)
end
def q2z.f (k : Nat) (l0 : List (S33)) : Option ((List (S33))) := q2z.l0 k ([] : List (S33)) l0 (l0.length : Int) 0
theorem q2z.mono_l : ∀ k, (∀ y0 y1 y2 y3, LeO (q2z.l0 k y0 y1 y2 y3) (q2z.l0 (k + 1) y0 y1 y2 y3)) ∧ (∀ y0 y1 y2 y3, LeO (q2z.l1 k y0 y1 y2 y3) (q2z.l1 (k + 1) y0 y1 y2 y3))
 | 0 => ⟨fun _ _ _ _ r h => by simp [q2z.l0] at h, fun _ _ _ _ r h => by simp [q2z.l1] at h⟩
 | k + 1 => by
  obtain ⟨ih0, ih1⟩ := q2z.mono_l k
  refine ⟨?_, ?_⟩
  ·
   intro y0 y1 y2 y3
   unfold q2z.l0
   repeat' first
   | (with_reducible exact ih0 _ _ _ _)
   | (with_reducible exact ih1 _ _ _ _)
   | (with_reducible exact LeO.refl _)
   | (with_reducible exact LeO.none _)
   | (with_reducible refine LeO.ite ?_ ?_)
   | (with_reducible refine LeO.bind ?_ (fun _ => ?_))
   | exact ih0 _ _ _ _
   | exact ih1 _ _ _ _
   | exact LeO.none _
   | refine LeO.ite ?_ ?_
   | refine LeO.bind ?_ (fun _ => ?_)
  ·
   intro y0 y1 y2 y3
   unfold q2z.l1
   repeat' first
   | (with_reducible exact ih0 _ _ _ _)
   | (with_reducible exact ih1 _ _ _ _)
   | (with_reducible exact LeO.refl _)
   | (with_reducible exact LeO.none _)
   | (with_reducible refine LeO.ite ?_ ?_)
   | (with_reducible refine LeO.bind ?_ (fun _ => ?_))
   | exact ih0 _ _ _ _
   | exact ih1 _ _ _ _
   | exact LeO.none _
   | refine LeO.ite ?_ ?_
   | refine LeO.bind ?_ (fun _ => ?_)
theorem q2z.mono : ∀ a0 k, LeO (q2z.f k a0) (q2z.f (k + 1) a0) := by
 intro a0 k
 obtain ⟨ih0, ih1⟩ := q2z.mono_l k
 unfold q2z.f
 repeat' first
   | (with_reducible exact ih0 _ _ _ _)
   | (with_reducible exact ih1 _ _ _ _)
   | (with_reducible exact LeO.refl _)
   | (with_reducible exact LeO.none _)
   | (with_reducible refine LeO.ite ?_ ?_)
   | (with_reducible refine LeO.bind ?_ (fun _ => ?_))
   | exact ih0 _ _ _ _
   | exact ih1 _ _ _ _
   | exact LeO.none _
   | refine LeO.ite ?_ ?_
   | refine LeO.bind ?_ (fun _ => ?_)
def q2z.T15 : Bool × List (List Nat × List Nat) := (true, [([], []), ([0], [0]), ([1], [1]), ([2], [2]), ([2], [2]), ([4, 2], [2, 4]), ([3, 5, 2], [2, 3, 5]), ([6, 2], [2, 6]), ([7, 2], [2, 7]), ([8, 2], [2, 8]), ([9, 2, 2], [2, 9]), ([10], [10]), ([11, 10], [10, 11]), ([10], [10]), ([10], [10]), ([14, 10], [10, 14]), ([13, 15, 10], [10, 13, 15]), ([16, 10], [10, 16]), ([17, 10], [10, 17]), ([18, 10], [10, 18]), ([12, 19, 10], [10, 12, 19]), ([10, 20, 2], [2, 10, 20]), ([2, 21], [2, 21]), ([22, 10], [22])])
def q2z.B15 : List Nat := [0, 1, 3, 7, 7, 23, 63, 127, 255, 511, 1023, 2047, 4095, 2047, 2047, 18431, 59391, 124927, 255999, 518143, 1048575, 2097151, 4194303, 8388607]
theorem q2z.tab15 : rtab .any (opsOf Try.f14 15) = q2z.T15 := by kernel_rfl
theorem q2z.bits15 : waitsOk q2z.T15.2 q2z.B15 = true := by kernel_rfl
def q2z.T16 : Bool × List (List Nat × List Nat) := (true, [([], []), ([], []), ([1], [1]), ([], []), ([], []), ([4], [4]), ([3, 5], [3, 5]), ([6], [6]), ([7], [7]), ([], []), ([9], [9]), ([8, 10], [8, 10]), ([0, 2, 0, 1, 2, 3, 4, 5, 6, 7, 8, 9, 10, 11], [0, 2]), ([12, 0, 1, 2, 3, 4, 5, 6, 7, 8, 9, 10, 11], [12]), ([13, 11, 0, 1, 2, 3, 4, 5, 6, 7, 8, 9, 10, 11], [11, 13])])
def q2z.B16 : List Nat := [0, 0, 2, 0, 0, 16, 56, 120, 248, 0, 512, 2040, 4095, 8191, 16383]
theorem q2z.tab16 : rtab .any (opsOf Try.f14 16) = q2z.T16 := by kernel_rfl
theorem q2z.bits16 : waitsOk q2z.T16.2 q2z.B16 = true := by kernel_rfl
set_option maxHeartbeats 8000000 in
set_option maxRecDepth 100000 in
theorem q2z.calls (k : Nat) (A0 : Option Addr) (c0 : Nat) (l0 : List (S33)) (r : List (S33)) (w : World) (hr0 : Kd.C k33 w A0 l0.length l0) (hc0 : l0.length ≤ c0) (h : q2z.f k l0 = some r) :
  Calls Try.prog 14 #[.slice A0 l0.length c0] w fun e w' => ∃ v0_ : Value, e = .returned (v0_) ∧ Kd.R k33 33 w' w.heap.size (fun _ => True) v0_ r ∧ Below w.heap.size w w' := by
 have hu33 := Try.underlying33
 have HR0 := Aside0.mk hr0
 have HC0 := Aside0.mk hc0
 clear hr0 hc0
 have HB := Aside0.mk (Below.refl w.heap.size w)
 have H : (q2z.l0 k ([] : List (S33)) l0 (l0.length : Int) 0) = some r := h
 clear h
 have H' := Aside0.mk H
 clear H
 go_enter Try.func14, Try.ntmps14
 go_wp2
 go_loopg [3, 12] k (fun kq v3 v12 w' => ∃ (x3_1 : List (S33)) (x12_1 : Int), v12 = .int .i64 x12_1 ∧ Aside0 (q2z.l0 kq x3_1 l0 (l0.length : Int) x12_1 = some r) ∧ Aside0 (kq ≤ k) ∧ Aside0 (Kd.R k33 33 w' w.heap.size (fun _ => True) v3 x3_1) ∧ Aside0 (Below w.heap.size w w'))
 case atStart => exact ⟨(([] : List (S33))), (0), (by first | rfl | (simp; done) | (simp [*]; done)), H', ⟨Nat.le_refl _⟩, ⟨by first | exact Kd.R_nil _ _ _ _ _ | exact Kd.N_nil _ _ _ _ _ | exact Kd.V_nil _ _ _ _ _ | exact Kd.Q_nil _ _ _ _ _ | exact Kd.S_nil _ _ _ _ _⟩, ⟨by repeat (first | (with_reducible first | exact HB.out | apply below_alloc | apply pw_below_drewN | apply below_drew1) | exact HB.out)⟩⟩
 case round =>
  clear H'
  try clear c1
  obtain ⟨x3_1, x12_1, rfl, HA, HK1, HO_3, HB⟩ := hrel
  cases gk with
  | zero => exact absurd HA.out (by simp [q2z.l0])
  | succ k1 =>
   have H := HA.out
   clear HA
   simp only [q2z.l0] at H
   by_cases c2 : x12_1 < (l0.length : Int)
   ·
    rw [if_pos c2] at H
    have c2b0 : decide (x12_1 < (l0.length : Int)) = true := decide_eq_true c2
    clear c2
    by_cases c3 : 0 ≤ x12_1
    ·
     rw [if_pos c3] at H
     have c3b0 : decide (0 ≤ x12_1) = true := decide_eq_true c3
     clear c3
     by_cases c4 : x12_1 < (l0.length : Int)
     ·
      rw [if_pos c4] at H
      have c4b0 : decide (x12_1 < (l0.length : Int)) = true := decide_eq_true c4
      clear c4
      by_cases c5 : ((rd_T33 l0 x12_1).f0) ≤ ((rd_T33 l0 x12_1).f1)
      ·
       rw [if_pos c5] at H
       have c5b0 : decide (((rd_T33 l0 x12_1).f0) ≤ ((rd_T33 l0 x12_1).f1)) = true := decide_eq_true c5
       clear c5
       by_cases c6 : x3_1.length < 17592186044416
       ·
        rw [if_pos c6] at H
        have LMc6 := Aside0.mk c6
        clear c6
        obtain ⟨y3, hy3⟩ : ∃ y_ : List (S33), y_ = (x3_1 ++ [(⟨(rd_T33 l0 x12_1).f0, (rd_T33 l0 x12_1).f1⟩ : S33)]) := ⟨_, rfl⟩
        replace H : (q2z.l0 k1 y3 l0 (l0.length : Int) (wrap64 (x12_1 + 1))) = some r := by first | (rw [hy3]; with_reducible exact H) | (have H2_ := (Option.bind_some _ _).symm.trans H; rw [hy3]; with_reducible exact H2_) | (have H2_ := (Option.bind_some _ _).symm.trans H; with_reducible exact H2_) | with_reducible exact H | (rw [hy3]; exact H) | exact H
        have Ny3 := Aside0.mk hy3
        clear hy3
        have H' := Aside0.mk H
        clear H
        have p1 : 0 ≤ (x12_1 : Int) := of_decide_eq_true (by first | (with_reducible assumption) | assumption)
        have q1 : x12_1 < (l0.length : Int) := of_decide_eq_true (by first | (with_reducible assumption) | assumption)
        obtain ⟨ad1, e1, hx1_0, hx1_1⟩ := at_T33 HR0.out x12_1 p1 q1
        cases e1
        replace hx1_0 := (HB.out.cell (World.block_lt_of_cell? w _ hx1_0)).trans hx1_0
        replace hx1_1 := (HB.out.cell (World.block_lt_of_cell? w _ hx1_1)).trans hx1_1
        replace p1 := eq_true p1
        replace q1 := eq_true q1
        go_wp2_with (first | ((with_reducible refine gate_dst (N := 5) rfl ?_); refine box_event ?hg (N := 5) ?hd (cs := #[.int .u32 0, .int .u32 0]) (t := 33) ?hr ?_; (case hd => rfl); (case hg => rfl); (case hr => first | (go_simp; done) | (go_simp; rfl)); intro gb2 hg w7 hbox hb; have n0_ := Aside0.mk (Kd.R_below (Kd.R_elderB (by (with_reducible repeat (first | apply Kd.R_alloc | apply Kd.R_drewN | apply Kd.R_drew)); exact HO_3.out) gb2 (Nat.le_of_eq hg.symm)) hb); have n1_ := Aside0.mk (below_step (by repeat (first | (with_reducible first | exact HB.out | apply below_alloc | apply pw_below_drewN | apply below_drew1) | exact HB.out)) hb); have n2_ := Aside0.mk (hbox); have n3_ := Aside0.mk ((by rw [hg]; exact (below_size (by repeat (first | (with_reducible first | exact HB.out | apply below_alloc | apply pw_below_drewN | apply below_drew1) | exact HB.out))) : w.heap.size ≤ gb2)); have n4_ := Aside0.mk ((by rw [hg]; exact (below_size (by repeat (first | (with_reducible first | exact HB.out | apply below_alloc | apply pw_below_drewN | apply below_drew1) | exact HB.out))) : w.heap.size ≤ gb2)); clear HO_3; clear HB; have HO_3 := n0_; have HB := n1_; have BK2 := n2_; have GW2 := n3_; have GE2 := n4_; clear n0_ n1_ n2_ n3_ n4_; clear hb hbox hg; have hcz8_0 : w7.cell? ⟨gb2, 0, none⟩ = some (.int .u32 0) := (blk_cell BK2.out 0).trans rfl; have hcz8_1 : w7.cell? ⟨gb2, 1, none⟩ = some (.int .u32 0) := (blk_cell BK2.out 1).trans rfl; have hfz8_0 := blk_frozen BK2.out 0; have hfz8_1 := blk_frozen BK2.out 1) | ((with_reducible refine gate_builtin (b := .append) (xs := #[.tmp 21, .tmp 23]) rfl ?_); at_builtin; refine Kd.R_append k33 (w0 := w) w.heap.size rfl (.tmp 21) (.tmp 23) 24 33 (.agg #[(.int .u32 0), (.int .u32 0)]) 8 rfl Try.underlying24 info33 rfl (by decide) (by omega) u3 x3_1 (⟨(rd_T33 l0 x12_1).f0, (rd_T33 l0 x12_1).f1⟩ : S33) [.int .u32 ((rd_T33 l0 x12_1).f0), .int .u32 ((rd_T33 l0 x12_1).f1)] (fun k_ => k_ ≠ gb2) (fun _ => False) rfl (by first | (go_simp; done) | (go_simp; rfl)) ?aP (fun _ hk => hk.elim) ?aF ?aO ?aB ?aS ?aL ?_; (case aP => exact k33_mkM _ _ _ (⟨(rd_T33 l0 x12_1).f0, (rd_T33 l0 x12_1).f1⟩ : S33)); (case aB => exact (by repeat (first | (with_reducible first | exact HB.out | apply below_alloc | apply pw_below_drewN | apply below_drew1 | refine below_set ?_ GE2.out) | exact HB.out))); (case aF => exact (fun k_ hk => Kd.freshB (g := gb2) (o := .cells #[.int .u32 ((rd_T33 l0 x12_1).f0), .int .u32 ((rd_T33 l0 x12_1).f1)] 33 (0, 0)) (by (with_reducible repeat (first | refine blk_drewN ?_ _ | refine blk_drew ?_ | refine blk_alloc ?_ _)); refine blk_put (cs := #[.int .u32 ((rd_T33 l0 x12_1).f0), .int .u32 0]) ?_ 1 _ rfl; (with_reducible repeat (first | refine blk_drewN ?_ _ | refine blk_drew ?_ | refine blk_alloc ?_ _)); refine blk_put (cs := #[.int .u32 0, .int .u32 0]) ?_ 0 _ rfl; (with_reducible repeat (first | refine blk_drewN ?_ _ | refine blk_drew ?_ | refine blk_alloc ?_ _)); exact BK2.out) k_ hk)); (case aO => exact (by (with_reducible repeat (first | apply Kd.R_alloc | apply Kd.R_drewN | apply Kd.R_drew)); exact Kd.R_mono (Kd.R_far (p := ⟨gb2, 1, none⟩) (Kd.R_far (p := ⟨gb2, 0, none⟩) (Kd.R_mono HO_3.out (fun k_ hk => (⟨hk, hk.2⟩ : _ ∧ k_ ≠ gb2))) (fun _ hk => hk.2) (.int .u32 ((rd_T33 l0 x12_1).f0))) (fun _ hk => hk.2) (.int .u32 ((rd_T33 l0 x12_1).f1))) (fun _ hk => hk.1.2))); (case aS => exact (below_size (by repeat (first | (with_reducible first | exact HB.out | apply below_alloc | apply pw_below_drewN | apply below_drew1 | refine below_set ?_ GE2.out) | exact HB.out)))); (case aL => have := LMc6.out; omega); intro v4 w9 ho hb hg hat; rw [← Ny3.out] at ho; have n0_ := Aside0.mk (blk_grown (g := gb2) (o := .cells #[.int .u32 ((rd_T33 l0 x12_1).f0), .int .u32 ((rd_T33 l0 x12_1).f1)] 33 (0, 0)) (by (with_reducible repeat (first | refine blk_drewN ?_ _ | refine blk_drew ?_ | refine blk_alloc ?_ _)); refine blk_put (cs := #[.int .u32 ((rd_T33 l0 x12_1).f0), .int .u32 0]) ?_ 1 _ rfl; (with_reducible repeat (first | refine blk_drewN ?_ _ | refine blk_drew ?_ | refine blk_alloc ?_ _)); refine blk_put (cs := #[.int .u32 0, .int .u32 0]) ?_ 0 _ rfl; (with_reducible repeat (first | refine blk_drewN ?_ _ | refine blk_drew ?_ | refine blk_alloc ?_ _)); exact BK2.out) hg (Kd.R_away HO_3.out (fun _ hk => hk.2))); have n1_ := Aside0.mk (hb); have n2_ := Aside0.mk (ho); clear BK2; clear HB; clear HO_3; have BK2 := n0_; have HB := n1_; have HO5 := n2_; clear n0_ n1_ n2_; clear ho hb hg hat))
        go_roundg k1
        case measure => have := HK1.out; omega
        case rel => exact ⟨(y3), (wrap64 (x12_1 + 1)), (by first | rfl | (simp; done) | (simp [*]; done)), H', ⟨by have := HK1.out; omega⟩, ⟨by (with_reducible repeat (first | apply Kd.R_alloc | apply Kd.R_drewN | apply Kd.R_drew)); exact Kd.R_mono HO5.out (fun _ hk => trivial)⟩, ⟨by repeat (first | (with_reducible first | exact HB.out | apply below_alloc | apply pw_below_drewN | apply below_drew1 | refine below_set ?_ GE2.out) | exact HB.out)⟩⟩
       ·
        rw [if_neg c6] at H
        exact absurd H (by simp)
      ·
       rw [if_neg c5] at H
       have c5b0 : decide (((rd_T33 l0 x12_1).f0) ≤ ((rd_T33 l0 x12_1).f1)) = false := decide_eq_false c5
       clear c5
       have H' := Aside0.mk H
       clear H
       have p1 : 0 ≤ (x12_1 : Int) := of_decide_eq_true (by first | (with_reducible assumption) | assumption)
       have q1 : x12_1 < (l0.length : Int) := of_decide_eq_true (by first | (with_reducible assumption) | assumption)
       obtain ⟨ad1, e1, hx1_0, hx1_1⟩ := at_T33 HR0.out x12_1 p1 q1
       cases e1
       replace hx1_0 := (HB.out.cell (World.block_lt_of_cell? w _ hx1_0)).trans hx1_0
       replace hx1_1 := (HB.out.cell (World.block_lt_of_cell? w _ hx1_1)).trans hx1_1
       replace p1 := eq_true p1
       replace q1 := eq_true q1
       go_wp2_with (first | ((with_reducible refine gate_dst (N := 5) rfl ?_); refine box_event ?hg (N := 5) ?hd (cs := #[.int .u32 0, .int .u32 0]) (t := 33) ?hr ?_; (case hd => rfl); (case hg => rfl); (case hr => first | (go_simp; done) | (go_simp; rfl)); intro gb2 hg w10 hbox hb; have n0_ := Aside0.mk (Kd.R_below (Kd.R_elderB (by (with_reducible repeat (first | apply Kd.R_alloc | apply Kd.R_drewN | apply Kd.R_drew)); exact HO_3.out) gb2 (Nat.le_of_eq hg.symm)) hb); have n1_ := Aside0.mk (below_step (by repeat (first | (with_reducible first | exact HB.out | apply below_alloc | apply pw_below_drewN | apply below_drew1) | exact HB.out)) hb); have n2_ := Aside0.mk (hbox); have n3_ := Aside0.mk ((by rw [hg]; exact (below_size (by repeat (first | (with_reducible first | exact HB.out | apply below_alloc | apply pw_below_drewN | apply below_drew1) | exact HB.out))) : w.heap.size ≤ gb2)); have n4_ := Aside0.mk ((by rw [hg]; exact (below_size (by repeat (first | (with_reducible first | exact HB.out | apply below_alloc | apply pw_below_drewN | apply below_drew1) | exact HB.out))) : w.heap.size ≤ gb2)); clear HO_3; clear HB; have HO_3 := n0_; have HB := n1_; have BK2 := n2_; have GW2 := n3_; have GE2 := n4_; clear n0_ n1_ n2_ n3_ n4_; clear hb hbox hg; have hcz11_0 : w10.cell? ⟨gb2, 0, none⟩ = some (.int .u32 0) := (blk_cell BK2.out 0).trans rfl; have hcz11_1 : w10.cell? ⟨gb2, 1, none⟩ = some (.int .u32 0) := (blk_cell BK2.out 1).trans rfl; have hfz11_0 := blk_frozen BK2.out 0; have hfz11_1 := blk_frozen BK2.out 1))
       go_roundg k1
       case measure => have := HK1.out; omega
       case rel => exact ⟨(x3_1), (wrap64 (x12_1 + 1)), (by first | rfl | (simp; done) | (simp [*]; done)), H', ⟨by have := HK1.out; omega⟩, ⟨by (with_reducible repeat (first | apply Kd.R_alloc | apply Kd.R_drewN | apply Kd.R_drew)); exact Kd.R_mono (Kd.R_far (p := ⟨gb2, 1, none⟩) (Kd.R_far (p := ⟨gb2, 0, none⟩) (Kd.R_mono HO_3.out (fun k_ hk => (⟨hk, hk.2⟩ : _ ∧ k_ ≠ gb2))) (fun _ hk => hk.2) (.int .u32 ((rd_T33 l0 x12_1).f0))) (fun _ hk => hk.2) (.int .u32 ((rd_T33 l0 x12_1).f1))) (fun _ hk => trivial)⟩, ⟨by repeat (first | (with_reducible first | exact HB.out | apply below_alloc | apply pw_below_drewN | apply below_drew1 | refine below_set ?_ GE2.out) | exact HB.out)⟩⟩
     ·
      rw [if_neg c4] at H
      exact absurd H (by simp)
    ·
     rw [if_neg c3] at H
     exact absurd H (by simp)
   ·
    rw [if_neg c2] at H
    have c2b0 : decide (x12_1 < (l0.length : Int)) = false := decide_eq_false c2
    clear c2
    replace H := Option.bind_eq_some_iff.mp H
    obtain ⟨t6, A120, H⟩ := H
    replace H : (q2z.l1 k1 ([] : List (S33)) t6 (x3_1.length : Int) 0) = some r := H
    have A12 := Aside0.mk A120
    clear A120
    have H' := Aside0.mk H
    clear H
    obtain ⟨Ao13, co13, eo13⟩ := Kd.R_slice HO_3.out
    subst eo13
    go_wp2_with (first | ((with_reducible refine gate_callee (f := 26) rfl ?_); refine goesL_ (some 27) rfl rfl Try.func26 (by kernel_rfl) rfl #[.slice Ao13 x3_1.length co13, .func (.func 27) #[] #[]] rfl (by (try simp only [List.map_toArray, List.map_cons, List.map_nil]); first | done | rfl | (simp only [List.length_drop, List.length_take]; rfl)) ?_; (with_reducible refine (SortFunc_Span.calls (fun k_ => some k_ = (.slice Ao13 x3_1.length co13 : Value).ownBlock) (.slice Ao13 x3_1.length co13) x3_1 t6 w _ ?side1 ?side2 A12.out).mono ?_); (case side1 => repeat (first | (with_reducible first | exact HB.out | apply below_alloc | apply pw_below_drewN | apply below_drew1) | exact HB.out)); (case side2 => exact Kd.R_tight rfl HO_3.out); rintro e w14 ⟨rfl, hy0, hb, hkp⟩; refine ⟨_, rfl, ?_⟩; have n0_ := Aside0.mk (Kd.R_reok rfl hy0 (fun k_ e_ => HO_3.out.1 k_ e_)); have n1_ := Aside0.mk (hb); clear HO_3; clear HB; have HO_3 := n0_; have HB := n1_; clear n0_ n1_; (try clear hb); (try clear hkp); (try clear hy0)))
    go_loopg [6, 30] k1 (fun kq v6 v30 w' => ∃ (x6_2 : List (S33)) (x28_2 : List (S33)) (x30_2 : Int), v30 = .int .i64 x30_2 ∧ Aside0 (q2z.l1 kq x6_2 x28_2 (x3_1.length : Int) x30_2 = some r) ∧ Aside0 (kq ≤ k1) ∧ Aside0 (Kd.R k33 33 w' w.heap.size (fun k_ => some k_ ≠ ((.slice Ao13 x3_1.length co13) : Value).ownBlock) v6 x6_2) ∧ Aside0 (Kd.R k33 33 w' w.heap.size (fun k_ => some k_ ≠ (v6 : Value).ownBlock) (.slice Ao13 x3_1.length co13) x28_2) ∧ Aside0 (Below w.heap.size w w'))
    case atStart => exact ⟨(([] : List (S33))), (t6), (0), (by first | rfl | (simp; done) | (simp [*]; done)), H', ⟨Nat.le_refl _⟩, ⟨by first | exact Kd.R_nil _ _ _ _ _ | exact Kd.N_nil _ _ _ _ _ | exact Kd.V_nil _ _ _ _ _ | exact Kd.Q_nil _ _ _ _ _ | exact Kd.S_nil _ _ _ _ _⟩, ⟨by (with_reducible repeat (first | apply Kd.R_alloc | apply Kd.R_drewN | apply Kd.R_drew)); exact Kd.R_mono HO_3.out (fun _ hk => (by simp [Value.ownBlock]))⟩, ⟨by repeat (first | (with_reducible first | exact HB.out | apply below_alloc | apply pw_below_drewN | apply below_drew1) | exact HB.out)⟩⟩
    case round =>
     clear H'
     try clear c1
     try clear p1
     try clear q1
     try clear hx1
     try clear c2
     try clear c2b0
     try clear p2
     try clear c3
     try clear c3b0
     try clear c4
     try clear c4b0
     try clear c5
     try clear c5b0
     try clear c6
     try clear p6
     try clear c14
     try clear hcz11_0
     try clear hcz11_1
     try clear hcz8_0
     try clear hcz8_1
     try clear hfz11_0
     try clear hfz11_1
     try clear hfz8_0
     try clear hfz8_1
     try clear hx1_0
     try clear hx1_1
     try clear p1
     try clear q1
     obtain ⟨x6_2, x28_2, x30_2, rfl, HA, HK2, HO_6, HO_28, HB⟩ := hrel
     have hl28_2 := (Kd.R_reads' HO_28.out).1
     rw [hl28_2] at HO_28
     (try simp only [hl28_2])
     (try simp only [hl28_2] at HO_6)
     cases gk with
     | zero => exact absurd HA.out (by simp [q2z.l1])
     | succ k2 =>
      have H := HA.out
      clear HA
      simp only [q2z.l1] at H
      by_cases c15 : x30_2 < (x3_1.length : Int)
      ·
       rw [if_pos c15] at H
       have c15b0 : decide (x30_2 < (x3_1.length : Int)) = true := decide_eq_true c15
       clear c15
       by_cases c16 : 0 ≤ x30_2
       ·
        rw [if_pos c16] at H
        have c16b0 : decide (0 ≤ x30_2) = true := decide_eq_true c16
        clear c16
        by_cases c17 : x30_2 < (x28_2.length : Int)
        ·
         rw [if_pos c17] at H
         have c17b0 : decide (x30_2 < (x28_2.length : Int)) = true := decide_eq_true c17
         clear c17
         by_cases c18 : (x6_2.length : Int) > 0
         ·
          rw [if_pos c18] at H
          have c18b0 : decide (0 < (x6_2.length : Int)) = true := decide_eq_true c18
          have c18b1 : decide (0 < x6_2.length) = true := decide_eq_true (by omega)
          clear c18
          obtain ⟨ji19, hji19⟩ : ∃ j_ : Int, (wrap64 ((x6_2.length : Int) - 1)) = j_ := ⟨_, rfl⟩
          replace H : (if 0 ≤ (ji19) then (if (ji19) < (x6_2.length : Int) then (if ((rd_T33 x6_2 (ji19)).f1) = 4294967295 then (q2z.l1 k2 (x6_2.set ((ji19) : Int).toNat (⟨(rd_T33 x6_2 (ji19)).f0, mx ((rd_T33 x6_2 (ji19)).f1) ((rd_T33 x28_2 x30_2).f1)⟩ : S33)) x28_2 (x3_1.length : Int) (wrap64 (x30_2 + 1))) else (if ((rd_T33 x28_2 x30_2).f0) ≤ ((((rd_T33 x6_2 (ji19)).f1) + 1) % 4294967296) then (q2z.l1 k2 (x6_2.set ((ji19) : Int).toNat (⟨(rd_T33 x6_2 (ji19)).f0, mx ((rd_T33 x6_2 (ji19)).f1) ((rd_T33 x28_2 x30_2).f1)⟩ : S33)) x28_2 (x3_1.length : Int) (wrap64 (x30_2 + 1))) else (if x6_2.length < 17592186044416 then (q2z.l1 k2 (x6_2 ++ [(⟨(rd_T33 x28_2 x30_2).f0, (rd_T33 x28_2 x30_2).f1⟩ : S33)]) x28_2 (x3_1.length : Int) (wrap64 (x30_2 + 1))) else (none)))) else (none)) else (none)) = some r := by first | (rw [hji19] at H; exact H) | (simp only [hji19] at H ⊢; exact H)
          have hji19w : (IntKind.i64.wrap ((x6_2.length : Int) - 1)) = ji19 := (i64_w _).trans hji19
          by_cases c20 : 0 ≤ (ji19)
          ·
           rw [if_pos c20] at H
           have c20b0 : decide (0 ≤ (ji19)) = true := decide_eq_true c20
           clear c20
           by_cases c21 : (ji19) < (x6_2.length : Int)
           ·
            rw [if_pos c21] at H
            have c21b0 : decide ((ji19) < (x6_2.length : Int)) = true := decide_eq_true c21
            clear c21
            by_cases c22 : ((rd_T33 x6_2 (ji19)).f1) = 4294967295
            ·
             rw [if_pos c22] at H
             have c22b0 : (((rd_T33 x6_2 (ji19)).f1) == 4294967295) = true := beq_iff_eq.mpr c22
             have c22b1 : (((rd_T33 x6_2 (ji19)).f1) != 4294967295) = false := bne_eq_false_iff_eq.mpr c22
             clear c22
             obtain ⟨ji23, hji23⟩ : ∃ j_ : Int, (mx ((rd_T33 x6_2 (ji19)).f1) ((rd_T33 x28_2 x30_2).f1)) = j_ := ⟨_, rfl⟩
             replace H : (q2z.l1 k2 (x6_2.set ((ji19) : Int).toNat (⟨(rd_T33 x6_2 (ji19)).f0, ji23⟩ : S33)) x28_2 (x3_1.length : Int) (wrap64 (x30_2 + 1))) = some r := by first | (rw [hji23] at H; exact H) | (simp only [hji23] at H ⊢; exact H)
             have hji23_ : (if ((rd_T33 x6_2 (ji19)).f1) < ((rd_T33 x28_2 x30_2).f1) then ((rd_T33 x28_2 x30_2).f1) else ((rd_T33 x6_2 (ji19)).f1)) = ji23 := hji23
             obtain ⟨y11, hy11⟩ : ∃ y_ : List (S33), y_ = (x6_2.set ((ji19) : Int).toNat (⟨(rd_T33 x6_2 (ji19)).f0, ji23⟩ : S33)) := ⟨_, rfl⟩
             replace H : (q2z.l1 k2 y11 x28_2 (x3_1.length : Int) (wrap64 (x30_2 + 1))) = some r := by first | (rw [hy11]; with_reducible exact H) | (have H2_ := (Option.bind_some _ _).symm.trans H; rw [hy11]; with_reducible exact H2_) | (have H2_ := (Option.bind_some _ _).symm.trans H; with_reducible exact H2_) | with_reducible exact H | (rw [hy11]; exact H) | exact H
             have Ny11 := Aside0.mk hy11
             clear hy11
             have H' := Aside0.mk H
             clear H
             have p7 : 0 ≤ (x30_2 : Int) := of_decide_eq_true (by first | (with_reducible assumption) | assumption)
             have q7 : x30_2 < (x28_2.length : Int) := of_decide_eq_true (by first | (with_reducible assumption) | assumption)
             obtain ⟨ad7, e7, hx7_0, hx7_1⟩ := at_T33 (Kd.R_reads' HO_28.out).2.2 x30_2 p7 q7
             cases e7
             replace p7 := eq_true p7
             replace q7 := eq_true q7
             try go_wp2_with (first | ((with_reducible refine gate_dst (N := 8) rfl ?_); refine box_event ?hg (N := 8) ?hd (cs := #[.int .u32 0, .int .u32 0]) (t := 33) ?hr ?_; (case hd => rfl); (case hg => rfl); (case hr => first | (go_simp; done) | (go_simp; rfl)); intro gb8 hg w25 hbox hb; have n0_ := Aside0.mk (Kd.R_below (Kd.R_elderB (by (with_reducible repeat (first | apply Kd.R_alloc | apply Kd.R_drewN | apply Kd.R_drew)); exact HO_6.out) gb8 (Nat.le_of_eq hg.symm)) hb); have n1_ := Aside0.mk (Kd.R_below (Kd.R_elderB (by (with_reducible repeat (first | apply Kd.R_alloc | apply Kd.R_drewN | apply Kd.R_drew)); exact HO_28.out) gb8 (Nat.le_of_eq hg.symm)) hb); have n2_ := Aside0.mk (below_step (by repeat (first | (with_reducible first | exact HB.out | apply below_alloc | apply pw_below_drewN | apply below_drew1) | exact HB.out)) hb); have n3_ := Aside0.mk (hbox); have n4_ := Aside0.mk ((by rw [hg]; exact (below_size (by repeat (first | (with_reducible first | exact HB.out | apply below_alloc | apply pw_below_drewN | apply below_drew1) | exact HB.out))) : w.heap.size ≤ gb8)); have n5_ := Aside0.mk ((by rw [hg]; exact (below_size (by repeat (first | (with_reducible first | exact HB.out | apply below_alloc | apply pw_below_drewN | apply below_drew1) | exact HB.out))) : w.heap.size ≤ gb8)); clear HO_6; clear HO_28; clear HB; have HO_6 := n0_; have HO_28 := n1_; have HB := n2_; have BK8 := n3_; have GW8 := n4_; have GE8 := n5_; clear n0_ n1_ n2_ n3_ n4_ n5_; clear hb hbox hg; have hcz26_0 : w25.cell? ⟨gb8, 0, none⟩ = some (.int .u32 0) := (blk_cell BK8.out 0).trans rfl; have hcz26_1 : w25.cell? ⟨gb8, 1, none⟩ = some (.int .u32 0) := (blk_cell BK8.out 1).trans rfl; have hfz26_0 := blk_frozen BK8.out 0; have hfz26_1 := blk_frozen BK8.out 1; obtain ⟨Ao27, co27, eo27⟩ := Kd.R_slice HO_6.out; subst eo27))
             have n0_ : Aside0 (Kd.R k33 33 ((w25.setCell ⟨gb8, 0, none⟩ (.int .u32 ((rd_T33 x28_2 x30_2).f0))).setCell ⟨gb8, 1, none⟩ (.int .u32 ((rd_T33 x28_2 x30_2).f1))) w.heap.size (fun k_ => some k_ ≠ (.slice (some ad7) x28_2.length co13 : Value).ownBlock ∧ k_ ≠ gb8) (.slice Ao27 x6_2.length co27) x6_2) := ⟨by (with_reducible repeat (first | apply Kd.R_alloc | apply Kd.R_drewN | apply Kd.R_drew)); exact Kd.R_mono (Kd.R_far (p := ⟨gb8, 1, none⟩) (Kd.R_far (p := ⟨gb8, 0, none⟩) (Kd.R_mono HO_6.out (fun k_ hk => (⟨hk, hk.2⟩ : _ ∧ k_ ≠ gb8))) (fun _ hk => hk.2) (.int .u32 ((rd_T33 x28_2 x30_2).f0))) (fun _ hk => hk.2) (.int .u32 ((rd_T33 x28_2 x30_2).f1))) (fun _ hk => ⟨hk.1.1, hk.1.2⟩)⟩
             have n1_ : Aside0 (Kd.R k33 33 ((w25.setCell ⟨gb8, 0, none⟩ (.int .u32 ((rd_T33 x28_2 x30_2).f0))).setCell ⟨gb8, 1, none⟩ (.int .u32 ((rd_T33 x28_2 x30_2).f1))) w.heap.size (fun k_ => some k_ ≠ (.slice Ao27 x6_2.length co27 : Value).ownBlock ∧ k_ ≠ gb8) (.slice (some ad7) x28_2.length co13) x28_2) := ⟨by (with_reducible repeat (first | apply Kd.R_alloc | apply Kd.R_drewN | apply Kd.R_drew)); exact Kd.R_mono (Kd.R_far (p := ⟨gb8, 1, none⟩) (Kd.R_far (p := ⟨gb8, 0, none⟩) (Kd.R_mono HO_28.out (fun k_ hk => (⟨hk, hk.2⟩ : _ ∧ k_ ≠ gb8))) (fun _ hk => hk.2) (.int .u32 ((rd_T33 x28_2 x30_2).f0))) (fun _ hk => hk.2) (.int .u32 ((rd_T33 x28_2 x30_2).f1))) (fun _ hk => ⟨hk.1.1, hk.1.2⟩)⟩
             have n2_ : Aside0 (((w25.setCell ⟨gb8, 0, none⟩ (.int .u32 ((rd_T33 x28_2 x30_2).f0))).setCell ⟨gb8, 1, none⟩ (.int .u32 ((rd_T33 x28_2 x30_2).f1))).heap[gb8]? = some (.cells #[.int .u32 ((rd_T33 x28_2 x30_2).f0), .int .u32 ((rd_T33 x28_2 x30_2).f1)] 33 (0, 0))) := ⟨by (with_reducible repeat (first | refine blk_drewN ?_ _ | refine blk_drew ?_ | refine blk_alloc ?_ _)); refine blk_put (cs := #[.int .u32 ((rd_T33 x28_2 x30_2).f0), .int .u32 0]) ?_ 1 _ rfl; (with_reducible repeat (first | refine blk_drewN ?_ _ | refine blk_drew ?_ | refine blk_alloc ?_ _)); refine blk_put (cs := #[.int .u32 0, .int .u32 0]) ?_ 0 _ rfl; (with_reducible repeat (first | refine blk_drewN ?_ _ | refine blk_drew ?_ | refine blk_alloc ?_ _)); exact BK8.out⟩
             have n3_ : Aside0 (Below w.heap.size w ((w25.setCell ⟨gb8, 0, none⟩ (.int .u32 ((rd_T33 x28_2 x30_2).f0))).setCell ⟨gb8, 1, none⟩ (.int .u32 ((rd_T33 x28_2 x30_2).f1)))) := ⟨by repeat (first | (with_reducible first | exact HB.out | apply below_alloc | apply pw_below_drewN | apply below_drew1 | refine below_set ?_ GE8.out) | exact HB.out)⟩
             (try clear HO_6)
             (try clear HO_28)
             (try clear BK8)
             (try clear HB)
             generalize ((w25.setCell ⟨gb8, 0, none⟩ (.int .u32 ((rd_T33 x28_2 x30_2).f0))).setCell ⟨gb8, 1, none⟩ (.int .u32 ((rd_T33 x28_2 x30_2).f1))) = w28 at n0_ n1_ n2_ n3_ ⊢
             have HO_6 := n0_
             have HO_28 := n1_
             have BK8 := n2_
             have HB := n3_
             clear n0_ n1_ n2_ n3_
             have n0_ := Aside0.mk (Kd.R_drew HO_6.out)
             have n1_ := Aside0.mk (Kd.R_drew HO_28.out)
             have n2_ := Aside0.mk (blk_drew BK8.out)
             have n3_ := Aside0.mk (below_drew1 HB.out)
             clear HO_6
             clear HO_28
             clear BK8
             clear HB
             have HO_6 := n0_
             have HO_28 := n1_
             have BK8 := n2_
             have HB := n3_
             clear n0_ n1_ n2_ n3_
             have p9 : 0 ≤ ((ji19) : Int) := of_decide_eq_true (by first | (with_reducible assumption) | assumption)
             have q9 : (ji19) < (x6_2.length : Int) := of_decide_eq_true (by first | (with_reducible assumption) | assumption)
             obtain ⟨ad9, e9, hx9_0, hx9_1⟩ := at_T33 (Kd.R_reads' HO_6.out).2.2 (ji19) p9 q9
             cases e9
             replace p9 := eq_true p9
             replace q9 := eq_true q9
             refine start_ (n := 24) (S := fun w' => w'.cell? (ad9.add (((ji19)).toNat * 2)) = some (.int .u32 ((rd_T33 x6_2 (ji19)).f0)) ∧ w'.cell? ⟨(ad9.add (((ji19)).toNat * 2)).block, (ad9.add (((ji19)).toNat * 2)).off + 1, none⟩ = some (.int .u32 ((rd_T33 x6_2 (ji19)).f1))) (ds := []) #[false, false, false, false, false, false, false, false, false, false, false, false, false, false, false, false, false, false, false, false, false, false, false, false] (by kernel_rfl) rfl rfl ⟨hx9_0, hx9_1⟩ (fun hHeld => ?_); refine with_tabW q2z.tab15 q2z.bits15 (fun HT_ HW_ => ?_)
             generalize w28.drew = w29 at HO_6 HO_28 BK8 HB hx9_0 hx9_1 hHeld ⊢
             refine pure_ (i := 0) (N := some 41) (v := ?_) (a' := ?_) #[true, false, false, false, false, false, false, false, false, false, false, false, false, false, false, false, false, false, false, false, false, false, false, false] rfl rfl (any_of HT_.out (by kernel_rfl)) (fun _ _ _ h => h) (Or.inl ⟨by rfl, ?_⟩) ?_ ?_
             rotate_left
             ·
              intro w'
              go_simp
              with_reducible rfl
             rotate_left
             ·
              simp only [Act.put, List.setIfInBounds_toArray, List.set_cons_zero, List.set_cons_succ, i64_w, i32_w, IntKind.wrap_u32]
              rfl
             refine pure_ (i := 1) (N := some 42) (v := ?_) (a' := ?_) #[true, true, false, false, false, false, false, false, false, false, false, false, false, false, false, false, false, false, false, false, false, false, false, false] rfl rfl (any_of HT_.out (by kernel_rfl)) (fun _ _ _ h => h) (Or.inl ⟨by rfl, ?_⟩) ?_ ?_
             rotate_left
             ·
              intro w'
              go_simp
              with_reducible rfl
             rotate_left
             ·
              simp only [Act.put, List.setIfInBounds_toArray, List.set_cons_zero, List.set_cons_succ, i64_w, i32_w, IntKind.wrap_u32]
              rfl
             refine pure_ (i := 2) (N := some 43) (v := ?_) (a' := ?_) #[true, true, true, false, false, false, false, false, false, false, false, false, false, false, false, false, false, false, false, false, false, false, false, false] rfl rfl (any_of HT_.out (by kernel_rfl)) (fun _ _ _ h => h) (Or.inl ⟨by rfl, ?_⟩) ?_ ?_
             rotate_left
             ·
              intro w'
              go_simp
              with_reducible rfl
             rotate_left
             ·
              simp only [Act.put, List.setIfInBounds_toArray, List.set_cons_zero, List.set_cons_succ, i64_w, i32_w, IntKind.wrap_u32]
              rfl
             refine pure_ (i := 3) (N := some 44) (v := ?_) (a' := ?_) #[true, true, true, true, false, false, false, false, false, false, false, false, false, false, false, false, false, false, false, false, false, false, false, false] rfl rfl (any_of HT_.out (by kernel_rfl)) (fun _ _ _ h => h) (Or.inl ⟨by rfl, ?_⟩) ?_ ?_
             rotate_left
             ·
              intro w'
              go_simp
              with_reducible rfl
             rotate_left
             ·
              simp only [Act.put, List.setIfInBounds_toArray, List.set_cons_zero, List.set_cons_succ, i64_w, i32_w, IntKind.wrap_u32]
              rfl
             refine pure_ (i := 4) (N := some 45) (v := ?_) (a' := ?_) #[true, true, true, true, true, false, false, false, false, false, false, false, false, false, false, false, false, false, false, false, false, false, false, false] rfl rfl (any_of HT_.out (by kernel_rfl)) (fun _ _ _ h => h) (Or.inl ⟨by rfl, ?_⟩) ?_ ?_
             rotate_left
             ·
              intro w'
              go_simp
              with_reducible rfl
             rotate_left
             ·
              simp only [Act.put, List.setIfInBounds_toArray, List.set_cons_zero, List.set_cons_succ, i64_w, i32_w, IntKind.wrap_u32]
              rfl
             refine pure_ (i := 5) (N := some 46) (v := ?_) (a' := ?_) #[true, true, true, true, true, true, false, false, false, false, false, false, false, false, false, false, false, false, false, false, false, false, false, false] rfl rfl (any_of HT_.out (by kernel_rfl)) (fun _ _ _ h => h) (Or.inl ⟨by rfl, ?_⟩) ?_ ?_
             rotate_left
             ·
              intro w'
              go_simp
              with_reducible rfl
             rotate_left
             ·
              simp only [Act.put, List.setIfInBounds_toArray, List.set_cons_zero, List.set_cons_succ, i64_w, i32_w, IntKind.wrap_u32]
              rfl
             refine pure_ (i := 6) (N := some 47) (v := ?_) (a' := ?_) #[true, true, true, true, true, true, true, false, false, false, false, false, false, false, false, false, false, false, false, false, false, false, false, false] rfl rfl (any_of HT_.out (by kernel_rfl)) (fun _ _ _ h => h) (Or.inl ⟨by rfl, ?_⟩) ?_ ?_
             rotate_left
             ·
              intro w'
              go_simp
              with_reducible rfl
             rotate_left
             ·
              simp only [Act.put, List.setIfInBounds_toArray, List.set_cons_zero, List.set_cons_succ, i64_w, i32_w, IntKind.wrap_u32]
              rfl
             refine pure_ (i := 7) (N := some 48) (v := ?_) (a' := ?_) #[true, true, true, true, true, true, true, true, false, false, false, false, false, false, false, false, false, false, false, false, false, false, false, false] rfl rfl (any_of HT_.out (by kernel_rfl)) (fun _ _ _ h => h) (Or.inl ⟨by rfl, ?_⟩) ?_ ?_
             rotate_left
             ·
              intro w'
              go_simp
              with_reducible rfl
             rotate_left
             ·
              simp only [Act.put, List.setIfInBounds_toArray, List.set_cons_zero, List.set_cons_succ, i64_w, i32_w, IntKind.wrap_u32]
              rfl
             refine take_ (i := 8) (N := some 49) (v := ?_) (a' := ?_) #[true, true, true, true, true, true, true, true, true, false, false, false, false, false, false, false, false, false, false, false, false, false, false, false] rfl rfl (take_ofW HT_.out HW_.out (by kernel_rfl)) (fun _ _ _ h => h) (Or.inl ⟨by rfl, ?_⟩) hHeld ?_ ?_
             rotate_left
             ·
              rintro w' ⟨s0, s1⟩
              go_simp
              with_reducible rfl
             rotate_left
             ·
              simp only [Act.put, List.setIfInBounds_toArray, List.set_cons_zero, List.set_cons_succ, i64_w, i32_w, IntKind.wrap_u32]
              rfl
             refine pure_ (i := 9) (N := some 50) (v := ?_) (a' := ?_) #[true, true, true, true, true, true, true, true, true, true, false, false, false, false, false, false, false, false, false, false, false, false, false, false] rfl rfl (any_of HT_.out (by kernel_rfl)) (fun _ _ _ h => h) (Or.inl ⟨by rfl, ?_⟩) ?_ ?_
             rotate_left
             ·
              intro w'
              go_simp
              with_reducible rfl
             rotate_left
             ·
              simp only [Act.put, List.setIfInBounds_toArray, List.set_cons_zero, List.set_cons_succ, i64_w, i32_w, IntKind.wrap_u32]
              rfl
             refine pure_ (i := 10) (N := some 51) (v := ?_) (a' := ?_) #[true, true, true, true, true, true, true, true, true, true, true, false, false, false, false, false, false, false, false, false, false, false, false, false] rfl rfl (any_of HT_.out (by kernel_rfl)) (fun _ _ _ h => h) (Or.inl ⟨by rfl, ?_⟩) ?_ ?_
             rotate_left
             ·
              intro w'
              go_simp
              with_reducible rfl
             rotate_left
             ·
              simp only [Act.put, List.setIfInBounds_toArray, List.set_cons_zero, List.set_cons_succ, i64_w, i32_w, IntKind.wrap_u32]
              rfl
             refine pure_ (i := 11) (N := some 52) (v := undef) (a' := ?_) #[true, true, true, true, true, true, true, true, true, true, true, true, false, false, false, false, false, false, false, false, false, false, false, false] rfl rfl (any_of HT_.out (by kernel_rfl)) (fun _ _ _ h => h) (Or.inr ⟨by rfl, rfl⟩) ?_ ?_
             rotate_left
             ·
              simp only [Act.put, List.setIfInBounds_toArray, List.set_cons_zero, List.set_cons_succ, i64_w, i32_w, IntKind.wrap_u32]
              rfl
             refine pure_ (i := 12) (N := some 53) (v := undef) (a' := ?_) #[true, true, true, true, true, true, true, true, true, true, true, true, true, false, false, false, false, false, false, false, false, false, false, false] rfl rfl (any_of HT_.out (by kernel_rfl)) (fun _ _ _ h => h) (Or.inr ⟨by rfl, rfl⟩) ?_ ?_
             rotate_left
             ·
              simp only [Act.put, List.setIfInBounds_toArray, List.set_cons_zero, List.set_cons_succ, i64_w, i32_w, IntKind.wrap_u32]
              rfl
             refine pure_ (i := 13) (N := some 54) (v := undef) (a' := ?_) #[true, true, true, true, true, true, true, true, true, true, true, true, true, true, false, false, false, false, false, false, false, false, false, false] rfl rfl (any_of HT_.out (by kernel_rfl)) (fun _ _ _ h => h) (Or.inr ⟨by rfl, rfl⟩) ?_ ?_
             rotate_left
             ·
              simp only [Act.put, List.setIfInBounds_toArray, List.set_cons_zero, List.set_cons_succ, i64_w, i32_w, IntKind.wrap_u32]
              rfl
             refine pure_ (i := 14) (N := some 55) (v := undef) (a' := ?_) #[true, true, true, true, true, true, true, true, true, true, true, true, true, true, true, false, false, false, false, false, false, false, false, false] rfl rfl (any_of HT_.out (by kernel_rfl)) (fun _ _ _ h => h) (Or.inr ⟨by rfl, rfl⟩) ?_ ?_
             rotate_left
             ·
              simp only [Act.put, List.setIfInBounds_toArray, List.set_cons_zero, List.set_cons_succ, i64_w, i32_w, IntKind.wrap_u32]
              rfl
             refine pure_ (i := 15) (N := some 56) (v := undef) (a' := ?_) #[true, true, true, true, true, true, true, true, true, true, true, true, true, true, true, true, false, false, false, false, false, false, false, false] rfl rfl (any_of HT_.out (by kernel_rfl)) (fun _ _ _ h => h) (Or.inr ⟨by rfl, rfl⟩) ?_ ?_
             rotate_left
             ·
              simp only [Act.put, List.setIfInBounds_toArray, List.set_cons_zero, List.set_cons_succ, i64_w, i32_w, IntKind.wrap_u32]
              rfl
             refine pure_ (i := 16) (N := some 57) (v := undef) (a' := ?_) #[true, true, true, true, true, true, true, true, true, true, true, true, true, true, true, true, true, false, false, false, false, false, false, false] rfl rfl (any_of HT_.out (by kernel_rfl)) (fun _ _ _ h => h) (Or.inr ⟨by rfl, rfl⟩) ?_ ?_
             rotate_left
             ·
              simp only [Act.put, List.setIfInBounds_toArray, List.set_cons_zero, List.set_cons_succ, i64_w, i32_w, IntKind.wrap_u32]
              rfl
             refine pure_ (i := 17) (N := some 58) (v := undef) (a' := ?_) #[true, true, true, true, true, true, true, true, true, true, true, true, true, true, true, true, true, true, false, false, false, false, false, false] rfl rfl (any_of HT_.out (by kernel_rfl)) (fun _ _ _ h => h) (Or.inr ⟨by rfl, rfl⟩) ?_ ?_
             rotate_left
             ·
              simp only [Act.put, List.setIfInBounds_toArray, List.set_cons_zero, List.set_cons_succ, i64_w, i32_w, IntKind.wrap_u32]
              rfl
             refine pure_ (i := 18) (N := some 59) (v := undef) (a' := ?_) #[true, true, true, true, true, true, true, true, true, true, true, true, true, true, true, true, true, true, true, false, false, false, false, false] rfl rfl (any_of HT_.out (by kernel_rfl)) (fun _ _ _ h => h) (Or.inr ⟨by rfl, rfl⟩) ?_ ?_
             rotate_left
             ·
              simp only [Act.put, List.setIfInBounds_toArray, List.set_cons_zero, List.set_cons_succ, i64_w, i32_w, IntKind.wrap_u32]
              rfl
             refine pure_ (i := 19) (N := some 60) (v := undef) (a' := ?_) #[true, true, true, true, true, true, true, true, true, true, true, true, true, true, true, true, true, true, true, true, false, false, false, false] rfl rfl (any_of HT_.out (by kernel_rfl)) (fun _ _ _ h => h) (Or.inr ⟨by rfl, rfl⟩) ?_ ?_
             rotate_left
             ·
              simp only [Act.put, List.setIfInBounds_toArray, List.set_cons_zero, List.set_cons_succ, i64_w, i32_w, IntKind.wrap_u32]
              rfl
             refine pure_ (i := 20) (N := some 61) (v := undef) (a' := ?_) #[true, true, true, true, true, true, true, true, true, true, true, true, true, true, true, true, true, true, true, true, true, false, false, false] rfl rfl (any_of HT_.out (by kernel_rfl)) (fun _ _ _ h => h) (Or.inr ⟨by rfl, rfl⟩) ?_ ?_
             rotate_left
             ·
              simp only [Act.put, List.setIfInBounds_toArray, List.set_cons_zero, List.set_cons_succ, i64_w, i32_w, IntKind.wrap_u32]
              rfl
             refine pure_ (i := 21) (N := some 62) (v := ?_) (a' := ?_) #[true, true, true, true, true, true, true, true, true, true, true, true, true, true, true, true, true, true, true, true, true, true, false, false] rfl rfl (any_of HT_.out (by kernel_rfl)) (fun _ _ _ h => h) (Or.inl ⟨by rfl, ?_⟩) ?_ ?_
             rotate_left
             ·
              intro w'
              go_simp
              with_reducible rfl
             rotate_left
             ·
              simp only [Act.put, List.setIfInBounds_toArray, List.set_cons_zero, List.set_cons_succ, i64_w, i32_w, IntKind.wrap_u32]
              rfl
             refine pure_ (i := 22) (N := some 63) (v := ?_) (a' := ?_) #[true, true, true, true, true, true, true, true, true, true, true, true, true, true, true, true, true, true, true, true, true, true, true, false] rfl rfl (any_of HT_.out (by kernel_rfl)) (fun _ _ _ h => h) (Or.inl ⟨by rfl, ?_⟩) ?_ ?_
             rotate_left
             ·
              intro w'
              go_simp
              with_reducible rfl
             rotate_left
             ·
              simp only [Act.put, List.setIfInBounds_toArray, List.set_cons_zero, List.set_cons_succ, i64_w, i32_w, IntKind.wrap_u32]
              rfl
             refine pure_ (i := 23) (N := some 40) (v := ?_) (a' := ?_) #[true, true, true, true, true, true, true, true, true, true, true, true, true, true, true, true, true, true, true, true, true, true, true, true] rfl rfl (any_of HT_.out (by kernel_rfl)) (fun _ _ _ h => h) (Or.inl ⟨by rfl, ?_⟩) ?_ ?_
             rotate_left
             ·
              intro w'
              go_simp
              with_reducible rfl
             rotate_left
             ·
              simp only [Act.put, List.setIfInBounds_toArray, List.set_cons_zero, List.set_cons_succ, i64_w, i32_w, IntKind.wrap_u32]
              rfl
             refine done_ (done_of HT_.out (by kernel_rfl)) ?_
             try go_wp2
             have n0_ := Aside0.mk (Kd.R_drew HO_6.out)
             have n1_ := Aside0.mk (Kd.R_drew HO_28.out)
             have n2_ := Aside0.mk (blk_drew BK8.out)
             have n3_ := Aside0.mk (below_drew1 HB.out)
             clear HO_6
             clear HO_28
             clear BK8
             clear HB
             have HO_6 := n0_
             have HO_28 := n1_
             have BK8 := n2_
             have HB := n3_
             clear n0_ n1_ n2_ n3_
             have p10 : 0 ≤ ((ji19) : Int) := of_decide_eq_true (by first | (with_reducible assumption) | assumption)
             have q10 : (ji19) < (x6_2.length : Int) := of_decide_eq_true (by first | (with_reducible assumption) | assumption)
             obtain ⟨ad10, e10, hx10_0, hx10_1⟩ := at_T33 (Kd.R_reads' HO_6.out).2.2 (ji19) p10 q10
             obtain rfl : ad9 = ad10 := (by injection e10)
             replace p10 := eq_true p10
             replace q10 := eq_true q10
             have p24 : 0 ≤ ((ji19) : Int) := of_decide_eq_true (by first | (with_reducible assumption) | assumption)
             have q24 : ((ji19) : Int) < ((x6_2.length : Int) : Int) := of_decide_eq_true (by first | (with_reducible assumption) | assumption)
             obtain ⟨go24, co24, eo24, gb24, gl24, cl24, HG24⟩ := Kd.R_form HO_6.out (by omega)
             (first | cases eo24 | (injection eo24 with ea_ en_ ec_; (first | subst ea_ | (injection ea_ with ea_; subst ea_)); subst ec_; clear en_))
             have GB24 := Aside0.mk gb24
             have GG24 := Aside0.mk HG24
             clear gb24 gl24 HG24
             (first | simp only [add_plain] at hx9_0 | skip)
             (first | simp only [add_plain] at hx9_1 | skip)
             (first | simp only [add_plain] at hx10_0 | skip)
             (first | simp only [add_plain] at hx10_1 | skip)
             obtain ⟨ce24, hcl24, hM24, hcc24, hfr24⟩ := Kd.R_elem HO_6.out z33 ((ji19) : Int) p24 q24
             obtain rfl := k33_openM hM24
             have hx24_0 : World.cell? _ ⟨go24, ((ji19) : Int).toNat * 2, none⟩ = some (.int .u32 ((rd_T33 x6_2 (ji19)).f0)) := hcc24 0 _ rfl
             have hx24_1 : World.cell? _ ⟨go24, ((ji19) : Int).toNat * 2 + 1, none⟩ = some (.int .u32 ((rd_T33 x6_2 (ji19)).f1)) := hcc24 1 _ rfl
             have hf24_0 : World.frozen? _ ⟨go24, ((ji19) : Int).toNat * 2, none⟩ = false := hfr24 0
             have hf24_1 : World.frozen? _ ⟨go24, ((ji19) : Int).toNat * 2 + 1, none⟩ = false := hfr24 1
             clear hcl24 hcc24 hfr24 hM24
             replace p24 := eq_true p24
             replace q24 := eq_true q24
             obtain ⟨ce31, hcl31, hM31, hcc31, hfr31⟩ := Kd.R_elem HO_6.out z33 ((ji19) : Int) (of_decide_eq_true (by first | (with_reducible assumption) | assumption)) (by have h_ : ((ji19) : Int) < ((x6_2.length : Int) : Int) := of_decide_eq_true (by first | (with_reducible assumption) | assumption); first | exact h_ | (have e_ := (Kd.R_reads' HO_6.out).1; omega) | simpa using h_)
             obtain rfl := k33_openM hM31
             have HP31 := (Kd.R_seg HO_6.out ((ji19) : Int) (of_decide_eq_true (by first | (with_reducible assumption) | assumption)) (by have h_ : ((ji19) : Int) < ((x6_2.length : Int) : Int) := of_decide_eq_true (by first | (with_reducible assumption) | assumption); first | exact h_ | (have e_ := (Kd.R_reads' HO_6.out).1; omega) | simpa using h_) (seg := [.int .u32 ji23]) (j := 1) hcl31 hcc31 (show 2 ≤ 2 from by decide) (x' := (⟨(rd_T33 x6_2 (ji19)).f0, ji23⟩ : S33)) (k33_mkM _ _ _ (⟨(rd_T33 x6_2 (ji19)).f0, ji23⟩ : S33) ) (fun _ hk => hk)).1
             rw [← Ny11.out] at HP31
             have HQ31 := Aside0.mk HP31
             clear hcl31 hcc31 hfr31 hM31 HP31
             refine start_ (n := 15) (S := fun w' => w'.cell? ⟨gb8, 0, none⟩ = some (.int .u32 ((rd_T33 x28_2 x30_2).f0)) ∧ w'.cell? ⟨gb8, 1, none⟩ = some (.int .u32 ((rd_T33 x28_2 x30_2).f1)) ∧ w'.cell? ⟨go24, ((ji19)).toNat * 2, none⟩ = some (.int .u32 ((rd_T33 x6_2 (ji19)).f0)) ∧ w'.cell? ⟨go24, ((ji19)).toNat * 2 + 1, none⟩ = some (.int .u32 ((rd_T33 x6_2 (ji19)).f1))) (ds := [14]) #[false, false, false, false, false, false, false, false, false, false, false, false, false, false, false] (by kernel_rfl) rfl rfl ⟨(blk_cell BK8.out 0).trans rfl, (blk_cell BK8.out 1).trans rfl, hx10_0, hx10_1⟩ (fun hHeld => ?_); refine with_tabW q2z.tab16 q2z.bits16 (fun HT_ HW_ => ?_)
             generalize w29.drew = w30 at HO_6 HO_28 BK8 HB GG24 HQ31 hf24_0 hf24_1 hx10_0 hx10_1 hx24_0 hx24_1 hx9_0 hx9_1 hHeld ⊢
             refine pure_ (i := 0) (N := some 64) (v := ?_) (a' := ?_) #[true, false, false, false, false, false, false, false, false, false, false, false, false, false, false] rfl rfl (any_of HT_.out (by kernel_rfl)) (fun _ _ _ h => h) (Or.inl ⟨by rfl, ?_⟩) ?_ ?_
             rotate_left
             ·
              intro w'
              go_simp
              with_reducible rfl
             rotate_left
             ·
              simp only [Act.put, List.setIfInBounds_toArray, List.set_cons_zero, List.set_cons_succ, i64_w, i32_w, IntKind.wrap_u32]
              rfl
             refine pure_ (i := 1) (N := some 65) (v := ?_) (a' := ?_) #[true, true, false, false, false, false, false, false, false, false, false, false, false, false, false] rfl rfl (any_of HT_.out (by kernel_rfl)) (fun _ _ _ h => h) (Or.inl ⟨by rfl, ?_⟩) ?_ ?_
             rotate_left
             ·
              intro w'
              go_simp
              with_reducible rfl
             rotate_left
             ·
              simp only [Act.put, List.setIfInBounds_toArray, List.set_cons_zero, List.set_cons_succ, i64_w, i32_w, IntKind.wrap_u32]
              rfl
             refine pure_ (i := 2) (N := some 66) (v := ?_) (a' := ?_) #[true, true, true, false, false, false, false, false, false, false, false, false, false, false, false] rfl rfl (any_of HT_.out (by kernel_rfl)) (fun _ _ _ h => h) (Or.inl ⟨by rfl, ?_⟩) ?_ ?_
             rotate_left
             ·
              intro w'
              go_simp
              with_reducible rfl
             rotate_left
             ·
              simp only [Act.put, List.setIfInBounds_toArray, List.set_cons_zero, List.set_cons_succ, i64_w, i32_w, IntKind.wrap_u32]
              rfl
             refine pure_ (i := 3) (N := some 67) (v := ?_) (a' := ?_) #[true, true, true, true, false, false, false, false, false, false, false, false, false, false, false] rfl rfl (any_of HT_.out (by kernel_rfl)) (fun _ _ _ h => h) (Or.inl ⟨by rfl, ?_⟩) ?_ ?_
             rotate_left
             ·
              intro w'
              go_simp
              with_reducible rfl
             rotate_left
             ·
              simp only [Act.put, List.setIfInBounds_toArray, List.set_cons_zero, List.set_cons_succ, i64_w, i32_w, IntKind.wrap_u32]
              rfl
             refine pure_ (i := 4) (N := some 68) (v := ?_) (a' := ?_) #[true, true, true, true, true, false, false, false, false, false, false, false, false, false, false] rfl rfl (any_of HT_.out (by kernel_rfl)) (fun _ _ _ h => h) (Or.inl ⟨by rfl, ?_⟩) ?_ ?_
             rotate_left
             ·
              intro w'
              go_simp
              with_reducible rfl
             rotate_left
             ·
              simp only [Act.put, List.setIfInBounds_toArray, List.set_cons_zero, List.set_cons_succ, i64_w, i32_w, IntKind.wrap_u32]
              rfl
             refine pure_ (i := 5) (N := some 69) (v := ?_) (a' := ?_) #[true, true, true, true, true, true, false, false, false, false, false, false, false, false, false] rfl rfl (any_of HT_.out (by kernel_rfl)) (fun _ _ _ h => h) (Or.inl ⟨by rfl, ?_⟩) ?_ ?_
             rotate_left
             ·
              intro w'
              go_simp
              with_reducible rfl
             rotate_left
             ·
              simp only [Act.put, List.setIfInBounds_toArray, List.set_cons_zero, List.set_cons_succ, i64_w, i32_w, IntKind.wrap_u32]
              rfl
             refine pure_ (i := 6) (N := some 70) (v := ?_) (a' := ?_) #[true, true, true, true, true, true, true, false, false, false, false, false, false, false, false] rfl rfl (any_of HT_.out (by kernel_rfl)) (fun _ _ _ h => h) (Or.inl ⟨by rfl, ?_⟩) ?_ ?_
             rotate_left
             ·
              intro w'
              go_simp
              with_reducible rfl
             rotate_left
             ·
              simp only [Act.put, List.setIfInBounds_toArray, List.set_cons_zero, List.set_cons_succ, i64_w, i32_w, IntKind.wrap_u32]
              rfl
             refine pure_ (i := 7) (N := some 71) (v := ?_) (a' := ?_) #[true, true, true, true, true, true, true, true, false, false, false, false, false, false, false] rfl rfl (any_of HT_.out (by kernel_rfl)) (fun _ _ _ h => h) (Or.inl ⟨by rfl, ?_⟩) ?_ ?_
             rotate_left
             ·
              intro w'
              go_simp
              with_reducible rfl
             rotate_left
             ·
              simp only [Act.put, List.setIfInBounds_toArray, List.set_cons_zero, List.set_cons_succ, i64_w, i32_w, IntKind.wrap_u32]
              rfl
             refine pure_ (i := 9) (N := some 73) (v := ?_) (a' := ?_) #[true, true, true, true, true, true, true, true, false, true, false, false, false, false, false] rfl rfl (any_of HT_.out (by kernel_rfl)) (fun _ _ _ h => h) (Or.inl ⟨by rfl, ?_⟩) ?_ ?_
             rotate_left
             ·
              intro w'
              go_simp
              with_reducible rfl
             rotate_left
             ·
              simp only [Act.put, List.setIfInBounds_toArray, List.set_cons_zero, List.set_cons_succ, i64_w, i32_w, IntKind.wrap_u32]
              rfl
             refine take_ (i := 8) (N := some 72) (v := ?_) (a' := ?_) #[true, true, true, true, true, true, true, true, true, true, false, false, false, false, false] rfl rfl (take_ofW HT_.out HW_.out (by kernel_rfl)) (fun _ _ _ h => h) (Or.inl ⟨by rfl, ?_⟩) hHeld ?_ ?_
             rotate_left
             ·
              rintro w' ⟨s0, s1, s2, s3⟩
              go_simp
              with_reducible rfl
             rotate_left
             ·
              simp only [Act.put, List.setIfInBounds_toArray, List.set_cons_zero, List.set_cons_succ, i64_w, i32_w, IntKind.wrap_u32]
              rfl
             refine take_ (i := 10) (N := some 74) (v := ?_) (a' := ?_) #[true, true, true, true, true, true, true, true, true, true, true, false, false, false, false] rfl rfl (take_ofW HT_.out HW_.out (by kernel_rfl)) (fun _ _ _ h => h) (Or.inl ⟨by rfl, ?_⟩) hHeld ?_ ?_
             rotate_left
             ·
              rintro w' ⟨s0, s1, s2, s3⟩
              go_simp
              with_reducible rfl
             rotate_left
             ·
              simp only [Act.put, List.setIfInBounds_toArray, List.set_cons_zero, List.set_cons_succ, i64_w, i32_w, IntKind.wrap_u32]
              rfl
             refine pure_ (i := 11) (N := some 75) (v := ?_) (a' := ?_) #[true, true, true, true, true, true, true, true, true, true, true, true, false, false, false] rfl rfl (any_of HT_.out (by kernel_rfl)) (fun _ _ _ h => h) (Or.inl ⟨by rfl, ?_⟩) ?_ ?_
             rotate_left
             ·
              intro w'
              go_simp
              with_reducible rfl
             rotate_left
             ·
              simp only [Act.put, List.setIfInBounds_toArray, List.set_cons_zero, List.set_cons_succ, i64_w, i32_w, IntKind.wrap_u32]
              rfl
             refine pure_ (i := 12) (N := some 76) (v := ?_) (a' := ?_) #[true, true, true, true, true, true, true, true, true, true, true, true, true, false, false] rfl rfl (any_of HT_.out (by kernel_rfl)) (fun _ _ _ h => h) (Or.inl ⟨by rfl, ?_⟩) ?_ ?_
             rotate_left
             ·
              intro w'
              go_simp
              with_reducible rfl
             rotate_left
             ·
              simp only [Act.put, List.setIfInBounds_toArray, List.set_cons_zero, List.set_cons_succ, i64_w, i32_w, IntKind.wrap_u32]
              rfl
             refine pure_ (i := 13) (N := some 77) (v := ?_) (a' := ?_) #[true, true, true, true, true, true, true, true, true, true, true, true, true, true, false] rfl rfl (any_of HT_.out (by kernel_rfl)) (fun _ _ _ h => h) (Or.inl ⟨by rfl, ?_⟩) ?_ ?_
             rotate_left
             ·
              intro w'
              go_simp
              with_reducible rfl
             rotate_left
             ·
              simp only [Act.put, List.setIfInBounds_toArray, List.set_cons_zero, List.set_cons_succ, i64_w, i32_w, IntKind.wrap_u32]
              rfl
             refine last_ (i := 14) (N := none) #[true, true, true, true, true, true, true, true, true, true, true, true, true, true, true] rfl rfl (one_of HT_.out (by kernel_rfl)) (by decide) (fun K hK => ?_)
             refine skip_ (w1 := ?_) (by rfl) rfl ?_ ?_
             rotate_left
             ·
              go_simp
              rfl
             refine hK.out _ _ ?_
             clear hK K
             refine done_ (done_of HT_.out (by kernel_rfl)) ?_
             try go_wp2
             (try simp only [← hl28_2])
             go_roundg k2
             case measure => have := HK1.out; have := HK2.out; omega
             case rel => exact ⟨(y11), (x28_2), (wrap64 (x30_2 + 1)), (by first | rfl | (simp; done) | (simp [*]; done)), H', ⟨by have := HK1.out; have := HK2.out; omega⟩, ⟨by (try simp only [hl28_2]); (with_reducible repeat (first | apply Kd.R_alloc | apply Kd.R_drewN | apply Kd.R_drew)); exact Kd.R_mono HQ31.out (fun _ hk => hk.1)⟩, ⟨by (try simp only [hl28_2]); (with_reducible repeat (first | apply Kd.R_alloc | apply Kd.R_drewN | apply Kd.R_drew)); exact Kd.R_mono (Kd.R_far (p := ⟨go24, ((ji19) : Int).toNat * 2 + 1, none⟩) (Kd.R_mono HO_28.out (fun k_ hk => (⟨hk, fun e_ => hk.1 (by rw [e_]; rfl)⟩ : _ ∧ k_ ≠ go24))) (fun _ hk => hk.2) (.int .u32 ji23)) (fun _ hk => hk.1.1)⟩, ⟨by repeat (first | (with_reducible first | exact HB.out | apply below_alloc | apply pw_below_drewN | apply below_drew1 | refine below_set ?_ GB24.out | refine below_set ?_ GE8.out) | exact HB.out)⟩⟩
            ·
             rw [if_neg c22] at H
             have c22b0 : (((rd_T33 x6_2 (ji19)).f1) == 4294967295) = false := beq_eq_false_iff_ne.mpr c22
             have c22b1 : (((rd_T33 x6_2 (ji19)).f1) != 4294967295) = true := bne_iff_ne.mpr c22
             by_cases c32 : ((rd_T33 x28_2 x30_2).f0) ≤ ((((rd_T33 x6_2 (ji19)).f1) + 1) % 4294967296)
             ·
              rw [if_pos c32] at H
              have c32b0 : decide (((rd_T33 x28_2 x30_2).f0) ≤ ((((rd_T33 x6_2 (ji19)).f1) + 1) % 4294967296)) = true := decide_eq_true c32
              clear c32
              obtain ⟨ji33, hji33⟩ : ∃ j_ : Int, (mx ((rd_T33 x6_2 (ji19)).f1) ((rd_T33 x28_2 x30_2).f1)) = j_ := ⟨_, rfl⟩
              replace H : (q2z.l1 k2 (x6_2.set ((ji19) : Int).toNat (⟨(rd_T33 x6_2 (ji19)).f0, ji33⟩ : S33)) x28_2 (x3_1.length : Int) (wrap64 (x30_2 + 1))) = some r := by first | (rw [hji33] at H; exact H) | (simp only [hji33] at H ⊢; exact H)
              have hji33_ : (if ((rd_T33 x6_2 (ji19)).f1) < ((rd_T33 x28_2 x30_2).f1) then ((rd_T33 x28_2 x30_2).f1) else ((rd_T33 x6_2 (ji19)).f1)) = ji33 := hji33
              obtain ⟨y14, hy14⟩ : ∃ y_ : List (S33), y_ = (x6_2.set ((ji19) : Int).toNat (⟨(rd_T33 x6_2 (ji19)).f0, ji33⟩ : S33)) := ⟨_, rfl⟩
              replace H : (q2z.l1 k2 y14 x28_2 (x3_1.length : Int) (wrap64 (x30_2 + 1))) = some r := by first | (rw [hy14]; with_reducible exact H) | (have H2_ := (Option.bind_some _ _).symm.trans H; rw [hy14]; with_reducible exact H2_) | (have H2_ := (Option.bind_some _ _).symm.trans H; with_reducible exact H2_) | with_reducible exact H | (rw [hy14]; exact H) | exact H
              have Ny14 := Aside0.mk hy14
              clear hy14
              have H' := Aside0.mk H
              clear H
              have p7 : 0 ≤ (x30_2 : Int) := of_decide_eq_true (by first | (with_reducible assumption) | assumption)
              have q7 : x30_2 < (x28_2.length : Int) := of_decide_eq_true (by first | (with_reducible assumption) | assumption)
              obtain ⟨ad7, e7, hx7_0, hx7_1⟩ := at_T33 (Kd.R_reads' HO_28.out).2.2 x30_2 p7 q7
              cases e7
              replace p7 := eq_true p7
              replace q7 := eq_true q7
              try go_wp2_with (first | ((with_reducible refine gate_dst (N := 8) rfl ?_); refine box_event ?hg (N := 8) ?hd (cs := #[.int .u32 0, .int .u32 0]) (t := 33) ?hr ?_; (case hd => rfl); (case hg => rfl); (case hr => first | (go_simp; done) | (go_simp; rfl)); intro gb8 hg w35 hbox hb; have n0_ := Aside0.mk (Kd.R_below (Kd.R_elderB (by (with_reducible repeat (first | apply Kd.R_alloc | apply Kd.R_drewN | apply Kd.R_drew)); exact HO_6.out) gb8 (Nat.le_of_eq hg.symm)) hb); have n1_ := Aside0.mk (Kd.R_below (Kd.R_elderB (by (with_reducible repeat (first | apply Kd.R_alloc | apply Kd.R_drewN | apply Kd.R_drew)); exact HO_28.out) gb8 (Nat.le_of_eq hg.symm)) hb); have n2_ := Aside0.mk (below_step (by repeat (first | (with_reducible first | exact HB.out | apply below_alloc | apply pw_below_drewN | apply below_drew1) | exact HB.out)) hb); have n3_ := Aside0.mk (hbox); have n4_ := Aside0.mk ((by rw [hg]; exact (below_size (by repeat (first | (with_reducible first | exact HB.out | apply below_alloc | apply pw_below_drewN | apply below_drew1) | exact HB.out))) : w.heap.size ≤ gb8)); have n5_ := Aside0.mk ((by rw [hg]; exact (below_size (by repeat (first | (with_reducible first | exact HB.out | apply below_alloc | apply pw_below_drewN | apply below_drew1) | exact HB.out))) : w.heap.size ≤ gb8)); clear HO_6; clear HO_28; clear HB; have HO_6 := n0_; have HO_28 := n1_; have HB := n2_; have BK8 := n3_; have GW8 := n4_; have GE8 := n5_; clear n0_ n1_ n2_ n3_ n4_ n5_; clear hb hbox hg; have hcz36_0 : w35.cell? ⟨gb8, 0, none⟩ = some (.int .u32 0) := (blk_cell BK8.out 0).trans rfl; have hcz36_1 : w35.cell? ⟨gb8, 1, none⟩ = some (.int .u32 0) := (blk_cell BK8.out 1).trans rfl; have hfz36_0 := blk_frozen BK8.out 0; have hfz36_1 := blk_frozen BK8.out 1; obtain ⟨Ao37, co37, eo37⟩ := Kd.R_slice HO_6.out; subst eo37))
              have n0_ : Aside0 (Kd.R k33 33 ((w35.setCell ⟨gb8, 0, none⟩ (.int .u32 ((rd_T33 x28_2 x30_2).f0))).setCell ⟨gb8, 1, none⟩ (.int .u32 ((rd_T33 x28_2 x30_2).f1))) w.heap.size (fun k_ => some k_ ≠ (.slice (some ad7) x28_2.length co13 : Value).ownBlock ∧ k_ ≠ gb8) (.slice Ao37 x6_2.length co37) x6_2) := ⟨by (with_reducible repeat (first | apply Kd.R_alloc | apply Kd.R_drewN | apply Kd.R_drew)); exact Kd.R_mono (Kd.R_far (p := ⟨gb8, 1, none⟩) (Kd.R_far (p := ⟨gb8, 0, none⟩) (Kd.R_mono HO_6.out (fun k_ hk => (⟨hk, hk.2⟩ : _ ∧ k_ ≠ gb8))) (fun _ hk => hk.2) (.int .u32 ((rd_T33 x28_2 x30_2).f0))) (fun _ hk => hk.2) (.int .u32 ((rd_T33 x28_2 x30_2).f1))) (fun _ hk => ⟨hk.1.1, hk.1.2⟩)⟩
              have n1_ : Aside0 (Kd.R k33 33 ((w35.setCell ⟨gb8, 0, none⟩ (.int .u32 ((rd_T33 x28_2 x30_2).f0))).setCell ⟨gb8, 1, none⟩ (.int .u32 ((rd_T33 x28_2 x30_2).f1))) w.heap.size (fun k_ => some k_ ≠ (.slice Ao37 x6_2.length co37 : Value).ownBlock ∧ k_ ≠ gb8) (.slice (some ad7) x28_2.length co13) x28_2) := ⟨by (with_reducible repeat (first | apply Kd.R_alloc | apply Kd.R_drewN | apply Kd.R_drew)); exact Kd.R_mono (Kd.R_far (p := ⟨gb8, 1, none⟩) (Kd.R_far (p := ⟨gb8, 0, none⟩) (Kd.R_mono HO_28.out (fun k_ hk => (⟨hk, hk.2⟩ : _ ∧ k_ ≠ gb8))) (fun _ hk => hk.2) (.int .u32 ((rd_T33 x28_2 x30_2).f0))) (fun _ hk => hk.2) (.int .u32 ((rd_T33 x28_2 x30_2).f1))) (fun _ hk => ⟨hk.1.1, hk.1.2⟩)⟩
              have n2_ : Aside0 (((w35.setCell ⟨gb8, 0, none⟩ (.int .u32 ((rd_T33 x28_2 x30_2).f0))).setCell ⟨gb8, 1, none⟩ (.int .u32 ((rd_T33 x28_2 x30_2).f1))).heap[gb8]? = some (.cells #[.int .u32 ((rd_T33 x28_2 x30_2).f0), .int .u32 ((rd_T33 x28_2 x30_2).f1)] 33 (0, 0))) := ⟨by (with_reducible repeat (first | refine blk_drewN ?_ _ | refine blk_drew ?_ | refine blk_alloc ?_ _)); refine blk_put (cs := #[.int .u32 ((rd_T33 x28_2 x30_2).f0), .int .u32 0]) ?_ 1 _ rfl; (with_reducible repeat (first | refine blk_drewN ?_ _ | refine blk_drew ?_ | refine blk_alloc ?_ _)); refine blk_put (cs := #[.int .u32 0, .int .u32 0]) ?_ 0 _ rfl; (with_reducible repeat (first | refine blk_drewN ?_ _ | refine blk_drew ?_ | refine blk_alloc ?_ _)); exact BK8.out⟩
              have n3_ : Aside0 (Below w.heap.size w ((w35.setCell ⟨gb8, 0, none⟩ (.int .u32 ((rd_T33 x28_2 x30_2).f0))).setCell ⟨gb8, 1, none⟩ (.int .u32 ((rd_T33 x28_2 x30_2).f1)))) := ⟨by repeat (first | (with_reducible first | exact HB.out | apply below_alloc | apply pw_below_drewN | apply below_drew1 | refine below_set ?_ GE8.out) | exact HB.out)⟩
              (try clear HO_6)
              (try clear HO_28)
              (try clear BK8)
              (try clear HB)
              generalize ((w35.setCell ⟨gb8, 0, none⟩ (.int .u32 ((rd_T33 x28_2 x30_2).f0))).setCell ⟨gb8, 1, none⟩ (.int .u32 ((rd_T33 x28_2 x30_2).f1))) = w38 at n0_ n1_ n2_ n3_ ⊢
              have HO_6 := n0_
              have HO_28 := n1_
              have BK8 := n2_
              have HB := n3_
              clear n0_ n1_ n2_ n3_
              have n0_ := Aside0.mk (Kd.R_drew HO_6.out)
              have n1_ := Aside0.mk (Kd.R_drew HO_28.out)
              have n2_ := Aside0.mk (blk_drew BK8.out)
              have n3_ := Aside0.mk (below_drew1 HB.out)
              clear HO_6
              clear HO_28
              clear BK8
              clear HB
              have HO_6 := n0_
              have HO_28 := n1_
              have BK8 := n2_
              have HB := n3_
              clear n0_ n1_ n2_ n3_
              have p9 : 0 ≤ ((ji19) : Int) := of_decide_eq_true (by first | (with_reducible assumption) | assumption)
              have q9 : (ji19) < (x6_2.length : Int) := of_decide_eq_true (by first | (with_reducible assumption) | assumption)
              obtain ⟨ad9, e9, hx9_0, hx9_1⟩ := at_T33 (Kd.R_reads' HO_6.out).2.2 (ji19) p9 q9
              cases e9
              replace p9 := eq_true p9
              replace q9 := eq_true q9
              have p12 : 0 ≤ ((ji19) : Int) := of_decide_eq_true (by first | (with_reducible assumption) | assumption)
              have q12 : (ji19) < (x6_2.length : Int) := of_decide_eq_true (by first | (with_reducible assumption) | assumption)
              obtain ⟨ad12, e12, hx12_0, hx12_1⟩ := at_T33 (Kd.R_reads' HO_6.out).2.2 (ji19) p12 q12
              obtain rfl : ad9 = ad12 := (by injection e12)
              replace p12 := eq_true p12
              replace q12 := eq_true q12
              refine start_ (n := 24) (S := fun w' => w'.cell? ⟨gb8, 0, none⟩ = some (.int .u32 ((rd_T33 x28_2 x30_2).f0)) ∧ w'.cell? ⟨gb8, 1, none⟩ = some (.int .u32 ((rd_T33 x28_2 x30_2).f1)) ∧ w'.cell? (ad9.add (((ji19)).toNat * 2)) = some (.int .u32 ((rd_T33 x6_2 (ji19)).f0)) ∧ w'.cell? ⟨(ad9.add (((ji19)).toNat * 2)).block, (ad9.add (((ji19)).toNat * 2)).off + 1, none⟩ = some (.int .u32 ((rd_T33 x6_2 (ji19)).f1)) ∧ w'.cell? (ad9.add (((ji19)).toNat * 2)) = some (.int .u32 ((rd_T33 x6_2 (ji19)).f0)) ∧ w'.cell? ⟨(ad9.add (((ji19)).toNat * 2)).block, (ad9.add (((ji19)).toNat * 2)).off + 1, none⟩ = some (.int .u32 ((rd_T33 x6_2 (ji19)).f1))) (ds := []) #[false, false, false, false, false, false, false, false, false, false, false, false, false, false, false, false, false, false, false, false, false, false, false, false] (by kernel_rfl) rfl rfl ⟨(blk_cell BK8.out 0).trans rfl, (blk_cell BK8.out 1).trans rfl, hx9_0, hx9_1, hx12_0, hx12_1⟩ (fun hHeld => ?_); refine with_tabW q2z.tab15 q2z.bits15 (fun HT_ HW_ => ?_)
              generalize w38.drew = w39 at HO_6 HO_28 BK8 HB hx12_0 hx12_1 hx9_0 hx9_1 hHeld ⊢
              refine pure_ (i := 0) (N := some 41) (v := ?_) (a' := ?_) #[true, false, false, false, false, false, false, false, false, false, false, false, false, false, false, false, false, false, false, false, false, false, false, false] rfl rfl (any_of HT_.out (by kernel_rfl)) (fun _ _ _ h => h) (Or.inl ⟨by rfl, ?_⟩) ?_ ?_
              rotate_left
              ·
               intro w'
               go_simp
               with_reducible rfl
              rotate_left
              ·
               simp only [Act.put, List.setIfInBounds_toArray, List.set_cons_zero, List.set_cons_succ, i64_w, i32_w, IntKind.wrap_u32]
               rfl
              refine pure_ (i := 1) (N := some 42) (v := ?_) (a' := ?_) #[true, true, false, false, false, false, false, false, false, false, false, false, false, false, false, false, false, false, false, false, false, false, false, false] rfl rfl (any_of HT_.out (by kernel_rfl)) (fun _ _ _ h => h) (Or.inl ⟨by rfl, ?_⟩) ?_ ?_
              rotate_left
              ·
               intro w'
               go_simp
               with_reducible rfl
              rotate_left
              ·
               simp only [Act.put, List.setIfInBounds_toArray, List.set_cons_zero, List.set_cons_succ, i64_w, i32_w, IntKind.wrap_u32]
               rfl
              refine pure_ (i := 2) (N := some 43) (v := ?_) (a' := ?_) #[true, true, true, false, false, false, false, false, false, false, false, false, false, false, false, false, false, false, false, false, false, false, false, false] rfl rfl (any_of HT_.out (by kernel_rfl)) (fun _ _ _ h => h) (Or.inl ⟨by rfl, ?_⟩) ?_ ?_
              rotate_left
              ·
               intro w'
               go_simp
               with_reducible rfl
              rotate_left
              ·
               simp only [Act.put, List.setIfInBounds_toArray, List.set_cons_zero, List.set_cons_succ, i64_w, i32_w, IntKind.wrap_u32]
               rfl
              refine pure_ (i := 3) (N := some 44) (v := ?_) (a' := ?_) #[true, true, true, true, false, false, false, false, false, false, false, false, false, false, false, false, false, false, false, false, false, false, false, false] rfl rfl (any_of HT_.out (by kernel_rfl)) (fun _ _ _ h => h) (Or.inl ⟨by rfl, ?_⟩) ?_ ?_
              rotate_left
              ·
               intro w'
               go_simp
               with_reducible rfl
              rotate_left
              ·
               simp only [Act.put, List.setIfInBounds_toArray, List.set_cons_zero, List.set_cons_succ, i64_w, i32_w, IntKind.wrap_u32]
               rfl
              refine pure_ (i := 4) (N := some 45) (v := ?_) (a' := ?_) #[true, true, true, true, true, false, false, false, false, false, false, false, false, false, false, false, false, false, false, false, false, false, false, false] rfl rfl (any_of HT_.out (by kernel_rfl)) (fun _ _ _ h => h) (Or.inl ⟨by rfl, ?_⟩) ?_ ?_
              rotate_left
              ·
               intro w'
               go_simp
               with_reducible rfl
              rotate_left
              ·
               simp only [Act.put, List.setIfInBounds_toArray, List.set_cons_zero, List.set_cons_succ, i64_w, i32_w, IntKind.wrap_u32]
               rfl
              refine pure_ (i := 5) (N := some 46) (v := ?_) (a' := ?_) #[true, true, true, true, true, true, false, false, false, false, false, false, false, false, false, false, false, false, false, false, false, false, false, false] rfl rfl (any_of HT_.out (by kernel_rfl)) (fun _ _ _ h => h) (Or.inl ⟨by rfl, ?_⟩) ?_ ?_
              rotate_left
              ·
               intro w'
               go_simp
               with_reducible rfl
              rotate_left
              ·
               simp only [Act.put, List.setIfInBounds_toArray, List.set_cons_zero, List.set_cons_succ, i64_w, i32_w, IntKind.wrap_u32]
               rfl
              refine pure_ (i := 6) (N := some 47) (v := ?_) (a' := ?_) #[true, true, true, true, true, true, true, false, false, false, false, false, false, false, false, false, false, false, false, false, false, false, false, false] rfl rfl (any_of HT_.out (by kernel_rfl)) (fun _ _ _ h => h) (Or.inl ⟨by rfl, ?_⟩) ?_ ?_
              rotate_left
              ·
               intro w'
               go_simp
               with_reducible rfl
              rotate_left
              ·
               simp only [Act.put, List.setIfInBounds_toArray, List.set_cons_zero, List.set_cons_succ, i64_w, i32_w, IntKind.wrap_u32]
               rfl
              refine pure_ (i := 7) (N := some 48) (v := ?_) (a' := ?_) #[true, true, true, true, true, true, true, true, false, false, false, false, false, false, false, false, false, false, false, false, false, false, false, false] rfl rfl (any_of HT_.out (by kernel_rfl)) (fun _ _ _ h => h) (Or.inl ⟨by rfl, ?_⟩) ?_ ?_
              rotate_left
              ·
               intro w'
               go_simp
               with_reducible rfl
              rotate_left
              ·
               simp only [Act.put, List.setIfInBounds_toArray, List.set_cons_zero, List.set_cons_succ, i64_w, i32_w, IntKind.wrap_u32]
               rfl
              refine take_ (i := 8) (N := some 49) (v := ?_) (a' := ?_) #[true, true, true, true, true, true, true, true, true, false, false, false, false, false, false, false, false, false, false, false, false, false, false, false] rfl rfl (take_ofW HT_.out HW_.out (by kernel_rfl)) (fun _ _ _ h => h) (Or.inl ⟨by rfl, ?_⟩) hHeld ?_ ?_
              rotate_left
              ·
               rintro w' ⟨s0, s1, s2, s3, s4, s5⟩
               go_simp
               with_reducible rfl
              rotate_left
              ·
               simp only [Act.put, List.setIfInBounds_toArray, List.set_cons_zero, List.set_cons_succ, i64_w, i32_w, IntKind.wrap_u32]
               rfl
              refine pure_ (i := 9) (N := some 50) (v := ?_) (a' := ?_) #[true, true, true, true, true, true, true, true, true, true, false, false, false, false, false, false, false, false, false, false, false, false, false, false] rfl rfl (any_of HT_.out (by kernel_rfl)) (fun _ _ _ h => h) (Or.inl ⟨by rfl, ?_⟩) ?_ ?_
              rotate_left
              ·
               intro w'
               go_simp
               with_reducible rfl
              rotate_left
              ·
               simp only [Act.put, List.setIfInBounds_toArray, List.set_cons_zero, List.set_cons_succ, i64_w, i32_w, IntKind.wrap_u32]
               rfl
              refine pure_ (i := 10) (N := some 51) (v := ?_) (a' := ?_) #[true, true, true, true, true, true, true, true, true, true, true, false, false, false, false, false, false, false, false, false, false, false, false, false] rfl rfl (any_of HT_.out (by kernel_rfl)) (fun _ _ _ h => h) (Or.inl ⟨by rfl, ?_⟩) ?_ ?_
              rotate_left
              ·
               intro w'
               go_simp
               with_reducible rfl
              rotate_left
              ·
               simp only [Act.put, List.setIfInBounds_toArray, List.set_cons_zero, List.set_cons_succ, i64_w, i32_w, IntKind.wrap_u32]
               rfl
              refine pure_ (i := 11) (N := some 52) (v := ?_) (a' := ?_) #[true, true, true, true, true, true, true, true, true, true, true, true, false, false, false, false, false, false, false, false, false, false, false, false] rfl rfl (any_of HT_.out (by kernel_rfl)) (fun _ _ _ h => h) (Or.inl ⟨by rfl, ?_⟩) ?_ ?_
              rotate_left
              ·
               intro w'
               go_simp
               with_reducible rfl
              rotate_left
              ·
               simp only [Act.put, List.setIfInBounds_toArray, List.set_cons_zero, List.set_cons_succ, i64_w, i32_w, IntKind.wrap_u32]
               rfl
              refine pure_ (i := 13) (N := some 54) (v := ?_) (a' := ?_) #[true, true, true, true, true, true, true, true, true, true, true, true, false, true, false, false, false, false, false, false, false, false, false, false] rfl rfl (any_of HT_.out (by kernel_rfl)) (fun _ _ _ h => h) (Or.inl ⟨by rfl, ?_⟩) ?_ ?_
              rotate_left
              ·
               intro w'
               go_simp
               with_reducible rfl
              rotate_left
              ·
               simp only [Act.put, List.setIfInBounds_toArray, List.set_cons_zero, List.set_cons_succ, i64_w, i32_w, IntKind.wrap_u32]
               rfl
              refine pure_ (i := 14) (N := some 55) (v := ?_) (a' := ?_) #[true, true, true, true, true, true, true, true, true, true, true, true, false, true, true, false, false, false, false, false, false, false, false, false] rfl rfl (any_of HT_.out (by kernel_rfl)) (fun _ _ _ h => h) (Or.inl ⟨by rfl, ?_⟩) ?_ ?_
              rotate_left
              ·
               intro w'
               go_simp
               with_reducible rfl
              rotate_left
              ·
               simp only [Act.put, List.setIfInBounds_toArray, List.set_cons_zero, List.set_cons_succ, i64_w, i32_w, IntKind.wrap_u32]
               rfl
              refine pure_ (i := 15) (N := some 56) (v := ?_) (a' := ?_) #[true, true, true, true, true, true, true, true, true, true, true, true, false, true, true, true, false, false, false, false, false, false, false, false] rfl rfl (any_of HT_.out (by kernel_rfl)) (fun _ _ _ h => h) (Or.inl ⟨by rfl, ?_⟩) ?_ ?_
              rotate_left
              ·
               intro w'
               go_simp
               with_reducible rfl
              rotate_left
              ·
               simp only [Act.put, List.setIfInBounds_toArray, List.set_cons_zero, List.set_cons_succ, i64_w, i32_w, IntKind.wrap_u32]
               rfl
              refine pure_ (i := 16) (N := some 57) (v := ?_) (a' := ?_) #[true, true, true, true, true, true, true, true, true, true, true, true, false, true, true, true, true, false, false, false, false, false, false, false] rfl rfl (any_of HT_.out (by kernel_rfl)) (fun _ _ _ h => h) (Or.inl ⟨by rfl, ?_⟩) ?_ ?_
              rotate_left
              ·
               intro w'
               go_simp
               with_reducible rfl
              rotate_left
              ·
               simp only [Act.put, List.setIfInBounds_toArray, List.set_cons_zero, List.set_cons_succ, i64_w, i32_w, IntKind.wrap_u32]
               rfl
              refine pure_ (i := 17) (N := some 58) (v := ?_) (a' := ?_) #[true, true, true, true, true, true, true, true, true, true, true, true, false, true, true, true, true, true, false, false, false, false, false, false] rfl rfl (any_of HT_.out (by kernel_rfl)) (fun _ _ _ h => h) (Or.inl ⟨by rfl, ?_⟩) ?_ ?_
              rotate_left
              ·
               intro w'
               go_simp
               with_reducible rfl
              rotate_left
              ·
               simp only [Act.put, List.setIfInBounds_toArray, List.set_cons_zero, List.set_cons_succ, i64_w, i32_w, IntKind.wrap_u32]
               rfl
              refine take_ (i := 12) (N := some 53) (v := ?_) (a' := ?_) #[true, true, true, true, true, true, true, true, true, true, true, true, true, true, true, true, true, true, false, false, false, false, false, false] rfl rfl (take_ofW HT_.out HW_.out (by kernel_rfl)) (fun _ _ _ h => h) (Or.inl ⟨by rfl, ?_⟩) hHeld ?_ ?_
              rotate_left
              ·
               rintro w' ⟨s0, s1, s2, s3, s4, s5⟩
               go_simp
               with_reducible rfl
              rotate_left
              ·
               simp only [Act.put, List.setIfInBounds_toArray, List.set_cons_zero, List.set_cons_succ, i64_w, i32_w, IntKind.wrap_u32]
               rfl
              refine take_ (i := 18) (N := some 59) (v := ?_) (a' := ?_) #[true, true, true, true, true, true, true, true, true, true, true, true, true, true, true, true, true, true, true, false, false, false, false, false] rfl rfl (take_ofW HT_.out HW_.out (by kernel_rfl)) (fun _ _ _ h => h) (Or.inl ⟨by rfl, ?_⟩) hHeld ?_ ?_
              rotate_left
              ·
               rintro w' ⟨s0, s1, s2, s3, s4, s5⟩
               go_simp
               with_reducible rfl
              rotate_left
              ·
               simp only [Act.put, List.setIfInBounds_toArray, List.set_cons_zero, List.set_cons_succ, i64_w, i32_w, IntKind.wrap_u32]
               rfl
              refine pure_ (i := 19) (N := some 60) (v := ?_) (a' := ?_) #[true, true, true, true, true, true, true, true, true, true, true, true, true, true, true, true, true, true, true, true, false, false, false, false] rfl rfl (any_of HT_.out (by kernel_rfl)) (fun _ _ _ h => h) (Or.inl ⟨by rfl, ?_⟩) ?_ ?_
              rotate_left
              ·
               intro w'
               go_simp
               with_reducible rfl
              rotate_left
              ·
               simp only [Act.put, List.setIfInBounds_toArray, List.set_cons_zero, List.set_cons_succ, i64_w, i32_w, IntKind.wrap_u32]
               rfl
              refine pure_ (i := 20) (N := some 61) (v := ?_) (a' := ?_) #[true, true, true, true, true, true, true, true, true, true, true, true, true, true, true, true, true, true, true, true, true, false, false, false] rfl rfl (any_of HT_.out (by kernel_rfl)) (fun _ _ _ h => h) (Or.inl ⟨by rfl, ?_⟩) ?_ ?_
              rotate_left
              ·
               intro w'
               go_simp
               with_reducible rfl
              rotate_left
              ·
               simp only [Act.put, List.setIfInBounds_toArray, List.set_cons_zero, List.set_cons_succ, i64_w, i32_w, IntKind.wrap_u32]
               rfl
              refine pure_ (i := 21) (N := some 62) (v := ?_) (a' := ?_) #[true, true, true, true, true, true, true, true, true, true, true, true, true, true, true, true, true, true, true, true, true, true, false, false] rfl rfl (any_of HT_.out (by kernel_rfl)) (fun _ _ _ h => h) (Or.inl ⟨by rfl, ?_⟩) ?_ ?_
              rotate_left
              ·
               intro w'
               go_simp
               with_reducible rfl
              rotate_left
              ·
               simp only [Act.put, List.setIfInBounds_toArray, List.set_cons_zero, List.set_cons_succ, i64_w, i32_w, IntKind.wrap_u32]
               rfl
              refine pure_ (i := 22) (N := some 63) (v := ?_) (a' := ?_) #[true, true, true, true, true, true, true, true, true, true, true, true, true, true, true, true, true, true, true, true, true, true, true, false] rfl rfl (any_of HT_.out (by kernel_rfl)) (fun _ _ _ h => h) (Or.inl ⟨by rfl, ?_⟩) ?_ ?_
              rotate_left
              ·
               intro w'
               go_simp
               with_reducible rfl
              rotate_left
              ·
               simp only [Act.put, List.setIfInBounds_toArray, List.set_cons_zero, List.set_cons_succ, i64_w, i32_w, IntKind.wrap_u32]
               rfl
              refine pure_ (i := 23) (N := some 40) (v := ?_) (a' := ?_) #[true, true, true, true, true, true, true, true, true, true, true, true, true, true, true, true, true, true, true, true, true, true, true, true] rfl rfl (any_of HT_.out (by kernel_rfl)) (fun _ _ _ h => h) (Or.inl ⟨by rfl, ?_⟩) ?_ ?_
              rotate_left
              ·
               intro w'
               go_simp
               with_reducible rfl
              rotate_left
              ·
               simp only [Act.put, List.setIfInBounds_toArray, List.set_cons_zero, List.set_cons_succ, i64_w, i32_w, IntKind.wrap_u32]
               rfl
              refine done_ (done_of HT_.out (by kernel_rfl)) ?_
              try go_wp2
              have n0_ := Aside0.mk (Kd.R_drew HO_6.out)
              have n1_ := Aside0.mk (Kd.R_drew HO_28.out)
              have n2_ := Aside0.mk (blk_drew BK8.out)
              have n3_ := Aside0.mk (below_drew1 HB.out)
              clear HO_6
              clear HO_28
              clear BK8
              clear HB
              have HO_6 := n0_
              have HO_28 := n1_
              have BK8 := n2_
              have HB := n3_
              clear n0_ n1_ n2_ n3_
              have p13 : 0 ≤ ((ji19) : Int) := of_decide_eq_true (by first | (with_reducible assumption) | assumption)
              have q13 : (ji19) < (x6_2.length : Int) := of_decide_eq_true (by first | (with_reducible assumption) | assumption)
              obtain ⟨ad13, e13, hx13_0, hx13_1⟩ := at_T33 (Kd.R_reads' HO_6.out).2.2 (ji19) p13 q13
              obtain rfl : ad9 = ad13 := (by injection e13)
              replace p13 := eq_true p13
              replace q13 := eq_true q13
              have p34 : 0 ≤ ((ji19) : Int) := of_decide_eq_true (by first | (with_reducible assumption) | assumption)
              have q34 : ((ji19) : Int) < ((x6_2.length : Int) : Int) := of_decide_eq_true (by first | (with_reducible assumption) | assumption)
              obtain ⟨go34, co34, eo34, gb34, gl34, cl34, HG34⟩ := Kd.R_form HO_6.out (by omega)
              (first | cases eo34 | (injection eo34 with ea_ en_ ec_; (first | subst ea_ | (injection ea_ with ea_; subst ea_)); subst ec_; clear en_))
              have GB34 := Aside0.mk gb34
              have GG34 := Aside0.mk HG34
              clear gb34 gl34 HG34
              (first | simp only [add_plain] at hx9_0 | skip)
              (first | simp only [add_plain] at hx9_1 | skip)
              (first | simp only [add_plain] at hx12_0 | skip)
              (first | simp only [add_plain] at hx12_1 | skip)
              (first | simp only [add_plain] at hx13_0 | skip)
              (first | simp only [add_plain] at hx13_1 | skip)
              obtain ⟨ce34, hcl34, hM34, hcc34, hfr34⟩ := Kd.R_elem HO_6.out z33 ((ji19) : Int) p34 q34
              obtain rfl := k33_openM hM34
              have hx34_0 : World.cell? _ ⟨go34, ((ji19) : Int).toNat * 2, none⟩ = some (.int .u32 ((rd_T33 x6_2 (ji19)).f0)) := hcc34 0 _ rfl
              have hx34_1 : World.cell? _ ⟨go34, ((ji19) : Int).toNat * 2 + 1, none⟩ = some (.int .u32 ((rd_T33 x6_2 (ji19)).f1)) := hcc34 1 _ rfl
              have hf34_0 : World.frozen? _ ⟨go34, ((ji19) : Int).toNat * 2, none⟩ = false := hfr34 0
              have hf34_1 : World.frozen? _ ⟨go34, ((ji19) : Int).toNat * 2 + 1, none⟩ = false := hfr34 1
              clear hcl34 hcc34 hfr34 hM34
              replace p34 := eq_true p34
              replace q34 := eq_true q34
              obtain ⟨ce41, hcl41, hM41, hcc41, hfr41⟩ := Kd.R_elem HO_6.out z33 ((ji19) : Int) (of_decide_eq_true (by first | (with_reducible assumption) | assumption)) (by have h_ : ((ji19) : Int) < ((x6_2.length : Int) : Int) := of_decide_eq_true (by first | (with_reducible assumption) | assumption); first | exact h_ | (have e_ := (Kd.R_reads' HO_6.out).1; omega) | simpa using h_)
              obtain rfl := k33_openM hM41
              have HP41 := (Kd.R_seg HO_6.out ((ji19) : Int) (of_decide_eq_true (by first | (with_reducible assumption) | assumption)) (by have h_ : ((ji19) : Int) < ((x6_2.length : Int) : Int) := of_decide_eq_true (by first | (with_reducible assumption) | assumption); first | exact h_ | (have e_ := (Kd.R_reads' HO_6.out).1; omega) | simpa using h_) (seg := [.int .u32 ji33]) (j := 1) hcl41 hcc41 (show 2 ≤ 2 from by decide) (x' := (⟨(rd_T33 x6_2 (ji19)).f0, ji33⟩ : S33)) (k33_mkM _ _ _ (⟨(rd_T33 x6_2 (ji19)).f0, ji33⟩ : S33) ) (fun _ hk => hk)).1
              rw [← Ny14.out] at HP41
              have HQ41 := Aside0.mk HP41
              clear hcl41 hcc41 hfr41 hM41 HP41
              refine start_ (n := 15) (S := fun w' => w'.cell? ⟨gb8, 0, none⟩ = some (.int .u32 ((rd_T33 x28_2 x30_2).f0)) ∧ w'.cell? ⟨gb8, 1, none⟩ = some (.int .u32 ((rd_T33 x28_2 x30_2).f1)) ∧ w'.cell? ⟨go34, ((ji19)).toNat * 2, none⟩ = some (.int .u32 ((rd_T33 x6_2 (ji19)).f0)) ∧ w'.cell? ⟨go34, ((ji19)).toNat * 2 + 1, none⟩ = some (.int .u32 ((rd_T33 x6_2 (ji19)).f1))) (ds := [14]) #[false, false, false, false, false, false, false, false, false, false, false, false, false, false, false] (by kernel_rfl) rfl rfl ⟨(blk_cell BK8.out 0).trans rfl, (blk_cell BK8.out 1).trans rfl, hx13_0, hx13_1⟩ (fun hHeld => ?_); refine with_tabW q2z.tab16 q2z.bits16 (fun HT_ HW_ => ?_)
              generalize w39.drew = w40 at HO_6 HO_28 BK8 HB GG34 HQ41 hf34_0 hf34_1 hx12_0 hx12_1 hx13_0 hx13_1 hx34_0 hx34_1 hx9_0 hx9_1 hHeld ⊢
              refine pure_ (i := 0) (N := some 64) (v := ?_) (a' := ?_) #[true, false, false, false, false, false, false, false, false, false, false, false, false, false, false] rfl rfl (any_of HT_.out (by kernel_rfl)) (fun _ _ _ h => h) (Or.inl ⟨by rfl, ?_⟩) ?_ ?_
              rotate_left
              ·
               intro w'
               go_simp
               with_reducible rfl
              rotate_left
              ·
               simp only [Act.put, List.setIfInBounds_toArray, List.set_cons_zero, List.set_cons_succ, i64_w, i32_w, IntKind.wrap_u32]
               rfl
              refine pure_ (i := 1) (N := some 65) (v := ?_) (a' := ?_) #[true, true, false, false, false, false, false, false, false, false, false, false, false, false, false] rfl rfl (any_of HT_.out (by kernel_rfl)) (fun _ _ _ h => h) (Or.inl ⟨by rfl, ?_⟩) ?_ ?_
              rotate_left
              ·
               intro w'
               go_simp
               with_reducible rfl
              rotate_left
              ·
               simp only [Act.put, List.setIfInBounds_toArray, List.set_cons_zero, List.set_cons_succ, i64_w, i32_w, IntKind.wrap_u32]
               rfl
              refine pure_ (i := 2) (N := some 66) (v := ?_) (a' := ?_) #[true, true, true, false, false, false, false, false, false, false, false, false, false, false, false] rfl rfl (any_of HT_.out (by kernel_rfl)) (fun _ _ _ h => h) (Or.inl ⟨by rfl, ?_⟩) ?_ ?_
              rotate_left
              ·
               intro w'
               go_simp
               with_reducible rfl
              rotate_left
              ·
               simp only [Act.put, List.setIfInBounds_toArray, List.set_cons_zero, List.set_cons_succ, i64_w, i32_w, IntKind.wrap_u32]
               rfl
              refine pure_ (i := 3) (N := some 67) (v := ?_) (a' := ?_) #[true, true, true, true, false, false, false, false, false, false, false, false, false, false, false] rfl rfl (any_of HT_.out (by kernel_rfl)) (fun _ _ _ h => h) (Or.inl ⟨by rfl, ?_⟩) ?_ ?_
              rotate_left
              ·
               intro w'
               go_simp
               with_reducible rfl
              rotate_left
              ·
               simp only [Act.put, List.setIfInBounds_toArray, List.set_cons_zero, List.set_cons_succ, i64_w, i32_w, IntKind.wrap_u32]
               rfl
              refine pure_ (i := 4) (N := some 68) (v := ?_) (a' := ?_) #[true, true, true, true, true, false, false, false, false, false, false, false, false, false, false] rfl rfl (any_of HT_.out (by kernel_rfl)) (fun _ _ _ h => h) (Or.inl ⟨by rfl, ?_⟩) ?_ ?_
              rotate_left
              ·
               intro w'
               go_simp
               with_reducible rfl
              rotate_left
              ·
               simp only [Act.put, List.setIfInBounds_toArray, List.set_cons_zero, List.set_cons_succ, i64_w, i32_w, IntKind.wrap_u32]
               rfl
              refine pure_ (i := 5) (N := some 69) (v := ?_) (a' := ?_) #[true, true, true, true, true, true, false, false, false, false, false, false, false, false, false] rfl rfl (any_of HT_.out (by kernel_rfl)) (fun _ _ _ h => h) (Or.inl ⟨by rfl, ?_⟩) ?_ ?_
              rotate_left
              ·
               intro w'
               go_simp
               with_reducible rfl
              rotate_left
              ·
               simp only [Act.put, List.setIfInBounds_toArray, List.set_cons_zero, List.set_cons_succ, i64_w, i32_w, IntKind.wrap_u32]
               rfl
              refine pure_ (i := 6) (N := some 70) (v := ?_) (a' := ?_) #[true, true, true, true, true, true, true, false, false, false, false, false, false, false, false] rfl rfl (any_of HT_.out (by kernel_rfl)) (fun _ _ _ h => h) (Or.inl ⟨by rfl, ?_⟩) ?_ ?_
              rotate_left
              ·
               intro w'
               go_simp
               with_reducible rfl
              rotate_left
              ·
               simp only [Act.put, List.setIfInBounds_toArray, List.set_cons_zero, List.set_cons_succ, i64_w, i32_w, IntKind.wrap_u32]
               rfl
              refine pure_ (i := 7) (N := some 71) (v := ?_) (a' := ?_) #[true, true, true, true, true, true, true, true, false, false, false, false, false, false, false] rfl rfl (any_of HT_.out (by kernel_rfl)) (fun _ _ _ h => h) (Or.inl ⟨by rfl, ?_⟩) ?_ ?_
              rotate_left
              ·
               intro w'
               go_simp
               with_reducible rfl
              rotate_left
              ·
               simp only [Act.put, List.setIfInBounds_toArray, List.set_cons_zero, List.set_cons_succ, i64_w, i32_w, IntKind.wrap_u32]
               rfl
              refine pure_ (i := 9) (N := some 73) (v := ?_) (a' := ?_) #[true, true, true, true, true, true, true, true, false, true, false, false, false, false, false] rfl rfl (any_of HT_.out (by kernel_rfl)) (fun _ _ _ h => h) (Or.inl ⟨by rfl, ?_⟩) ?_ ?_
              rotate_left
              ·
               intro w'
               go_simp
               with_reducible rfl
              rotate_left
              ·
               simp only [Act.put, List.setIfInBounds_toArray, List.set_cons_zero, List.set_cons_succ, i64_w, i32_w, IntKind.wrap_u32]
               rfl
              refine take_ (i := 8) (N := some 72) (v := ?_) (a' := ?_) #[true, true, true, true, true, true, true, true, true, true, false, false, false, false, false] rfl rfl (take_ofW HT_.out HW_.out (by kernel_rfl)) (fun _ _ _ h => h) (Or.inl ⟨by rfl, ?_⟩) hHeld ?_ ?_
              rotate_left
              ·
               rintro w' ⟨s0, s1, s2, s3⟩
               go_simp
               with_reducible rfl
              rotate_left
              ·
               simp only [Act.put, List.setIfInBounds_toArray, List.set_cons_zero, List.set_cons_succ, i64_w, i32_w, IntKind.wrap_u32]
               rfl
              refine take_ (i := 10) (N := some 74) (v := ?_) (a' := ?_) #[true, true, true, true, true, true, true, true, true, true, true, false, false, false, false] rfl rfl (take_ofW HT_.out HW_.out (by kernel_rfl)) (fun _ _ _ h => h) (Or.inl ⟨by rfl, ?_⟩) hHeld ?_ ?_
              rotate_left
              ·
               rintro w' ⟨s0, s1, s2, s3⟩
               go_simp
               with_reducible rfl
              rotate_left
              ·
               simp only [Act.put, List.setIfInBounds_toArray, List.set_cons_zero, List.set_cons_succ, i64_w, i32_w, IntKind.wrap_u32]
               rfl
              refine pure_ (i := 11) (N := some 75) (v := ?_) (a' := ?_) #[true, true, true, true, true, true, true, true, true, true, true, true, false, false, false] rfl rfl (any_of HT_.out (by kernel_rfl)) (fun _ _ _ h => h) (Or.inl ⟨by rfl, ?_⟩) ?_ ?_
              rotate_left
              ·
               intro w'
               go_simp
               with_reducible rfl
              rotate_left
              ·
               simp only [Act.put, List.setIfInBounds_toArray, List.set_cons_zero, List.set_cons_succ, i64_w, i32_w, IntKind.wrap_u32]
               rfl
              refine pure_ (i := 12) (N := some 76) (v := ?_) (a' := ?_) #[true, true, true, true, true, true, true, true, true, true, true, true, true, false, false] rfl rfl (any_of HT_.out (by kernel_rfl)) (fun _ _ _ h => h) (Or.inl ⟨by rfl, ?_⟩) ?_ ?_
              rotate_left
              ·
               intro w'
               go_simp
               with_reducible rfl
              rotate_left
              ·
               simp only [Act.put, List.setIfInBounds_toArray, List.set_cons_zero, List.set_cons_succ, i64_w, i32_w, IntKind.wrap_u32]
               rfl
              refine pure_ (i := 13) (N := some 77) (v := ?_) (a' := ?_) #[true, true, true, true, true, true, true, true, true, true, true, true, true, true, false] rfl rfl (any_of HT_.out (by kernel_rfl)) (fun _ _ _ h => h) (Or.inl ⟨by rfl, ?_⟩) ?_ ?_
              rotate_left
              ·
               intro w'
               go_simp
               with_reducible rfl
              rotate_left
              ·
               simp only [Act.put, List.setIfInBounds_toArray, List.set_cons_zero, List.set_cons_succ, i64_w, i32_w, IntKind.wrap_u32]
               rfl
              refine last_ (i := 14) (N := none) #[true, true, true, true, true, true, true, true, true, true, true, true, true, true, true] rfl rfl (one_of HT_.out (by kernel_rfl)) (by decide) (fun K hK => ?_)
              refine skip_ (w1 := ?_) (by rfl) rfl ?_ ?_
              rotate_left
              ·
               go_simp
               rfl
              refine hK.out _ _ ?_
              clear hK K
              refine done_ (done_of HT_.out (by kernel_rfl)) ?_
              try go_wp2
              (try simp only [← hl28_2])
              go_roundg k2
              case measure => have := HK1.out; have := HK2.out; omega
              case rel => exact ⟨(y14), (x28_2), (wrap64 (x30_2 + 1)), (by first | rfl | (simp; done) | (simp [*]; done)), H', ⟨by have := HK1.out; have := HK2.out; omega⟩, ⟨by (try simp only [hl28_2]); (with_reducible repeat (first | apply Kd.R_alloc | apply Kd.R_drewN | apply Kd.R_drew)); exact Kd.R_mono HQ41.out (fun _ hk => hk.1)⟩, ⟨by (try simp only [hl28_2]); (with_reducible repeat (first | apply Kd.R_alloc | apply Kd.R_drewN | apply Kd.R_drew)); exact Kd.R_mono (Kd.R_far (p := ⟨go34, ((ji19) : Int).toNat * 2 + 1, none⟩) (Kd.R_mono HO_28.out (fun k_ hk => (⟨hk, fun e_ => hk.1 (by rw [e_]; rfl)⟩ : _ ∧ k_ ≠ go34))) (fun _ hk => hk.2) (.int .u32 ji33)) (fun _ hk => hk.1.1)⟩, ⟨by repeat (first | (with_reducible first | exact HB.out | apply below_alloc | apply pw_below_drewN | apply below_drew1 | refine below_set ?_ GB34.out | refine below_set ?_ GE8.out) | exact HB.out)⟩⟩
             ·
              rw [if_neg c32] at H
              have c32b0 : decide (((rd_T33 x28_2 x30_2).f0) ≤ ((((rd_T33 x6_2 (ji19)).f1) + 1) % 4294967296)) = false := decide_eq_false c32
              clear c32
              by_cases c42 : x6_2.length < 17592186044416
              ·
               rw [if_pos c42] at H
               have LMc42 := Aside0.mk c42
               clear c42
               obtain ⟨y15, hy15⟩ : ∃ y_ : List (S33), y_ = (x6_2 ++ [(⟨(rd_T33 x28_2 x30_2).f0, (rd_T33 x28_2 x30_2).f1⟩ : S33)]) := ⟨_, rfl⟩
               replace H : (q2z.l1 k2 y15 x28_2 (x3_1.length : Int) (wrap64 (x30_2 + 1))) = some r := by first | (rw [hy15]; with_reducible exact H) | (have H2_ := (Option.bind_some _ _).symm.trans H; rw [hy15]; with_reducible exact H2_) | (have H2_ := (Option.bind_some _ _).symm.trans H; with_reducible exact H2_) | with_reducible exact H | (rw [hy15]; exact H) | exact H
               have Ny15 := Aside0.mk hy15
               clear hy15
               have H' := Aside0.mk H
               clear H
               have p7 : 0 ≤ (x30_2 : Int) := of_decide_eq_true (by first | (with_reducible assumption) | assumption)
               have q7 : x30_2 < (x28_2.length : Int) := of_decide_eq_true (by first | (with_reducible assumption) | assumption)
               obtain ⟨ad7, e7, hx7_0, hx7_1⟩ := at_T33 (Kd.R_reads' HO_28.out).2.2 x30_2 p7 q7
               cases e7
               replace p7 := eq_true p7
               replace q7 := eq_true q7
               try go_wp2_with (first | ((with_reducible refine gate_dst (N := 8) rfl ?_); refine box_event ?hg (N := 8) ?hd (cs := #[.int .u32 0, .int .u32 0]) (t := 33) ?hr ?_; (case hd => rfl); (case hg => rfl); (case hr => first | (go_simp; done) | (go_simp; rfl)); intro gb8 hg w43 hbox hb; have n0_ := Aside0.mk (Kd.R_below (Kd.R_elderB (by (with_reducible repeat (first | apply Kd.R_alloc | apply Kd.R_drewN | apply Kd.R_drew)); exact HO_6.out) gb8 (Nat.le_of_eq hg.symm)) hb); have n1_ := Aside0.mk (Kd.R_below (Kd.R_elderB (by (with_reducible repeat (first | apply Kd.R_alloc | apply Kd.R_drewN | apply Kd.R_drew)); exact HO_28.out) gb8 (Nat.le_of_eq hg.symm)) hb); have n2_ := Aside0.mk (below_step (by repeat (first | (with_reducible first | exact HB.out | apply below_alloc | apply pw_below_drewN | apply below_drew1) | exact HB.out)) hb); have n3_ := Aside0.mk (hbox); have n4_ := Aside0.mk ((by rw [hg]; exact (below_size (by repeat (first | (with_reducible first | exact HB.out | apply below_alloc | apply pw_below_drewN | apply below_drew1) | exact HB.out))) : w.heap.size ≤ gb8)); have n5_ := Aside0.mk ((by rw [hg]; exact (below_size (by repeat (first | (with_reducible first | exact HB.out | apply below_alloc | apply pw_below_drewN | apply below_drew1) | exact HB.out))) : w.heap.size ≤ gb8)); clear HO_6; clear HO_28; clear HB; have HO_6 := n0_; have HO_28 := n1_; have HB := n2_; have BK8 := n3_; have GW8 := n4_; have GE8 := n5_; clear n0_ n1_ n2_ n3_ n4_ n5_; clear hb hbox hg; have hcz44_0 : w43.cell? ⟨gb8, 0, none⟩ = some (.int .u32 0) := (blk_cell BK8.out 0).trans rfl; have hcz44_1 : w43.cell? ⟨gb8, 1, none⟩ = some (.int .u32 0) := (blk_cell BK8.out 1).trans rfl; have hfz44_0 := blk_frozen BK8.out 0; have hfz44_1 := blk_frozen BK8.out 1; obtain ⟨Ao45, co45, eo45⟩ := Kd.R_slice HO_6.out; subst eo45))
               have n0_ : Aside0 (Kd.R k33 33 ((w43.setCell ⟨gb8, 0, none⟩ (.int .u32 ((rd_T33 x28_2 x30_2).f0))).setCell ⟨gb8, 1, none⟩ (.int .u32 ((rd_T33 x28_2 x30_2).f1))) w.heap.size (fun k_ => some k_ ≠ (.slice (some ad7) x28_2.length co13 : Value).ownBlock ∧ k_ ≠ gb8) (.slice Ao45 x6_2.length co45) x6_2) := ⟨by (with_reducible repeat (first | apply Kd.R_alloc | apply Kd.R_drewN | apply Kd.R_drew)); exact Kd.R_mono (Kd.R_far (p := ⟨gb8, 1, none⟩) (Kd.R_far (p := ⟨gb8, 0, none⟩) (Kd.R_mono HO_6.out (fun k_ hk => (⟨hk, hk.2⟩ : _ ∧ k_ ≠ gb8))) (fun _ hk => hk.2) (.int .u32 ((rd_T33 x28_2 x30_2).f0))) (fun _ hk => hk.2) (.int .u32 ((rd_T33 x28_2 x30_2).f1))) (fun _ hk => ⟨hk.1.1, hk.1.2⟩)⟩
               have n1_ : Aside0 (Kd.R k33 33 ((w43.setCell ⟨gb8, 0, none⟩ (.int .u32 ((rd_T33 x28_2 x30_2).f0))).setCell ⟨gb8, 1, none⟩ (.int .u32 ((rd_T33 x28_2 x30_2).f1))) w.heap.size (fun k_ => some k_ ≠ (.slice Ao45 x6_2.length co45 : Value).ownBlock ∧ k_ ≠ gb8) (.slice (some ad7) x28_2.length co13) x28_2) := ⟨by (with_reducible repeat (first | apply Kd.R_alloc | apply Kd.R_drewN | apply Kd.R_drew)); exact Kd.R_mono (Kd.R_far (p := ⟨gb8, 1, none⟩) (Kd.R_far (p := ⟨gb8, 0, none⟩) (Kd.R_mono HO_28.out (fun k_ hk => (⟨hk, hk.2⟩ : _ ∧ k_ ≠ gb8))) (fun _ hk => hk.2) (.int .u32 ((rd_T33 x28_2 x30_2).f0))) (fun _ hk => hk.2) (.int .u32 ((rd_T33 x28_2 x30_2).f1))) (fun _ hk => ⟨hk.1.1, hk.1.2⟩)⟩
               have n2_ : Aside0 (((w43.setCell ⟨gb8, 0, none⟩ (.int .u32 ((rd_T33 x28_2 x30_2).f0))).setCell ⟨gb8, 1, none⟩ (.int .u32 ((rd_T33 x28_2 x30_2).f1))).heap[gb8]? = some (.cells #[.int .u32 ((rd_T33 x28_2 x30_2).f0), .int .u32 ((rd_T33 x28_2 x30_2).f1)] 33 (0, 0))) := ⟨by (with_reducible repeat (first | refine blk_drewN ?_ _ | refine blk_drew ?_ | refine blk_alloc ?_ _)); refine blk_put (cs := #[.int .u32 ((rd_T33 x28_2 x30_2).f0), .int .u32 0]) ?_ 1 _ rfl; (with_reducible repeat (first | refine blk_drewN ?_ _ | refine blk_drew ?_ | refine blk_alloc ?_ _)); refine blk_put (cs := #[.int .u32 0, .int .u32 0]) ?_ 0 _ rfl; (with_reducible repeat (first | refine blk_drewN ?_ _ | refine blk_drew ?_ | refine blk_alloc ?_ _)); exact BK8.out⟩
               have n3_ : Aside0 (Below w.heap.size w ((w43.setCell ⟨gb8, 0, none⟩ (.int .u32 ((rd_T33 x28_2 x30_2).f0))).setCell ⟨gb8, 1, none⟩ (.int .u32 ((rd_T33 x28_2 x30_2).f1)))) := ⟨by repeat (first | (with_reducible first | exact HB.out | apply below_alloc | apply pw_below_drewN | apply below_drew1 | refine below_set ?_ GE8.out) | exact HB.out)⟩
               (try clear HO_6)
               (try clear HO_28)
               (try clear BK8)
               (try clear HB)
               generalize ((w43.setCell ⟨gb8, 0, none⟩ (.int .u32 ((rd_T33 x28_2 x30_2).f0))).setCell ⟨gb8, 1, none⟩ (.int .u32 ((rd_T33 x28_2 x30_2).f1))) = w46 at n0_ n1_ n2_ n3_ ⊢
               have HO_6 := n0_
               have HO_28 := n1_
               have BK8 := n2_
               have HB := n3_
               clear n0_ n1_ n2_ n3_
               have n0_ := Aside0.mk (Kd.R_drew HO_6.out)
               have n1_ := Aside0.mk (Kd.R_drew HO_28.out)
               have n2_ := Aside0.mk (blk_drew BK8.out)
               have n3_ := Aside0.mk (below_drew1 HB.out)
               clear HO_6
               clear HO_28
               clear BK8
               clear HB
               have HO_6 := n0_
               have HO_28 := n1_
               have BK8 := n2_
               have HB := n3_
               clear n0_ n1_ n2_ n3_
               have p9 : 0 ≤ ((ji19) : Int) := of_decide_eq_true (by first | (with_reducible assumption) | assumption)
               have q9 : (ji19) < (x6_2.length : Int) := of_decide_eq_true (by first | (with_reducible assumption) | assumption)
               obtain ⟨ad9, e9, hx9_0, hx9_1⟩ := at_T33 (Kd.R_reads' HO_6.out).2.2 (ji19) p9 q9
               cases e9
               replace p9 := eq_true p9
               replace q9 := eq_true q9
               have p12 : 0 ≤ ((ji19) : Int) := of_decide_eq_true (by first | (with_reducible assumption) | assumption)
               have q12 : (ji19) < (x6_2.length : Int) := of_decide_eq_true (by first | (with_reducible assumption) | assumption)
               obtain ⟨ad12, e12, hx12_0, hx12_1⟩ := at_T33 (Kd.R_reads' HO_6.out).2.2 (ji19) p12 q12
               obtain rfl : ad9 = ad12 := (by injection e12)
               replace p12 := eq_true p12
               replace q12 := eq_true q12
               refine start_ (n := 24) (S := fun w' => w'.cell? ⟨gb8, 0, none⟩ = some (.int .u32 ((rd_T33 x28_2 x30_2).f0)) ∧ w'.cell? ⟨gb8, 1, none⟩ = some (.int .u32 ((rd_T33 x28_2 x30_2).f1)) ∧ w'.cell? (ad9.add (((ji19)).toNat * 2)) = some (.int .u32 ((rd_T33 x6_2 (ji19)).f0)) ∧ w'.cell? ⟨(ad9.add (((ji19)).toNat * 2)).block, (ad9.add (((ji19)).toNat * 2)).off + 1, none⟩ = some (.int .u32 ((rd_T33 x6_2 (ji19)).f1)) ∧ w'.cell? (ad9.add (((ji19)).toNat * 2)) = some (.int .u32 ((rd_T33 x6_2 (ji19)).f0)) ∧ w'.cell? ⟨(ad9.add (((ji19)).toNat * 2)).block, (ad9.add (((ji19)).toNat * 2)).off + 1, none⟩ = some (.int .u32 ((rd_T33 x6_2 (ji19)).f1))) (ds := []) #[false, false, false, false, false, false, false, false, false, false, false, false, false, false, false, false, false, false, false, false, false, false, false, false] (by kernel_rfl) rfl rfl ⟨(blk_cell BK8.out 0).trans rfl, (blk_cell BK8.out 1).trans rfl, hx9_0, hx9_1, hx12_0, hx12_1⟩ (fun hHeld => ?_); refine with_tabW q2z.tab15 q2z.bits15 (fun HT_ HW_ => ?_)
               generalize w46.drew = w47 at HO_6 HO_28 BK8 HB hx12_0 hx12_1 hx9_0 hx9_1 hHeld ⊢
               refine pure_ (i := 0) (N := some 41) (v := ?_) (a' := ?_) #[true, false, false, false, false, false, false, false, false, false, false, false, false, false, false, false, false, false, false, false, false, false, false, false] rfl rfl (any_of HT_.out (by kernel_rfl)) (fun _ _ _ h => h) (Or.inl ⟨by rfl, ?_⟩) ?_ ?_
               rotate_left
               ·
                intro w'
                go_simp
                with_reducible rfl
               rotate_left
               ·
                simp only [Act.put, List.setIfInBounds_toArray, List.set_cons_zero, List.set_cons_succ, i64_w, i32_w, IntKind.wrap_u32]
                rfl
               refine pure_ (i := 1) (N := some 42) (v := ?_) (a' := ?_) #[true, true, false, false, false, false, false, false, false, false, false, false, false, false, false, false, false, false, false, false, false, false, false, false] rfl rfl (any_of HT_.out (by kernel_rfl)) (fun _ _ _ h => h) (Or.inl ⟨by rfl, ?_⟩) ?_ ?_
               rotate_left
               ·
                intro w'
                go_simp
                with_reducible rfl
               rotate_left
               ·
                simp only [Act.put, List.setIfInBounds_toArray, List.set_cons_zero, List.set_cons_succ, i64_w, i32_w, IntKind.wrap_u32]
                rfl
               refine pure_ (i := 2) (N := some 43) (v := ?_) (a' := ?_) #[true, true, true, false, false, false, false, false, false, false, false, false, false, false, false, false, false, false, false, false, false, false, false, false] rfl rfl (any_of HT_.out (by kernel_rfl)) (fun _ _ _ h => h) (Or.inl ⟨by rfl, ?_⟩) ?_ ?_
               rotate_left
               ·
                intro w'
                go_simp
                with_reducible rfl
               rotate_left
               ·
                simp only [Act.put, List.setIfInBounds_toArray, List.set_cons_zero, List.set_cons_succ, i64_w, i32_w, IntKind.wrap_u32]
                rfl
               refine pure_ (i := 3) (N := some 44) (v := ?_) (a' := ?_) #[true, true, true, true, false, false, false, false, false, false, false, false, false, false, false, false, false, false, false, false, false, false, false, false] rfl rfl (any_of HT_.out (by kernel_rfl)) (fun _ _ _ h => h) (Or.inl ⟨by rfl, ?_⟩) ?_ ?_
               rotate_left
               ·
                intro w'
                go_simp
                with_reducible rfl
               rotate_left
               ·
                simp only [Act.put, List.setIfInBounds_toArray, List.set_cons_zero, List.set_cons_succ, i64_w, i32_w, IntKind.wrap_u32]
                rfl
               refine pure_ (i := 4) (N := some 45) (v := ?_) (a' := ?_) #[true, true, true, true, true, false, false, false, false, false, false, false, false, false, false, false, false, false, false, false, false, false, false, false] rfl rfl (any_of HT_.out (by kernel_rfl)) (fun _ _ _ h => h) (Or.inl ⟨by rfl, ?_⟩) ?_ ?_
               rotate_left
               ·
                intro w'
                go_simp
                with_reducible rfl
               rotate_left
               ·
                simp only [Act.put, List.setIfInBounds_toArray, List.set_cons_zero, List.set_cons_succ, i64_w, i32_w, IntKind.wrap_u32]
                rfl
               refine pure_ (i := 5) (N := some 46) (v := ?_) (a' := ?_) #[true, true, true, true, true, true, false, false, false, false, false, false, false, false, false, false, false, false, false, false, false, false, false, false] rfl rfl (any_of HT_.out (by kernel_rfl)) (fun _ _ _ h => h) (Or.inl ⟨by rfl, ?_⟩) ?_ ?_
               rotate_left
               ·
                intro w'
                go_simp
                with_reducible rfl
               rotate_left
               ·
                simp only [Act.put, List.setIfInBounds_toArray, List.set_cons_zero, List.set_cons_succ, i64_w, i32_w, IntKind.wrap_u32]
                rfl
               refine pure_ (i := 6) (N := some 47) (v := ?_) (a' := ?_) #[true, true, true, true, true, true, true, false, false, false, false, false, false, false, false, false, false, false, false, false, false, false, false, false] rfl rfl (any_of HT_.out (by kernel_rfl)) (fun _ _ _ h => h) (Or.inl ⟨by rfl, ?_⟩) ?_ ?_
               rotate_left
               ·
                intro w'
                go_simp
                with_reducible rfl
               rotate_left
               ·
                simp only [Act.put, List.setIfInBounds_toArray, List.set_cons_zero, List.set_cons_succ, i64_w, i32_w, IntKind.wrap_u32]
                rfl
               refine pure_ (i := 7) (N := some 48) (v := ?_) (a' := ?_) #[true, true, true, true, true, true, true, true, false, false, false, false, false, false, false, false, false, false, false, false, false, false, false, false] rfl rfl (any_of HT_.out (by kernel_rfl)) (fun _ _ _ h => h) (Or.inl ⟨by rfl, ?_⟩) ?_ ?_
               rotate_left
               ·
                intro w'
                go_simp
                with_reducible rfl
               rotate_left
               ·
                simp only [Act.put, List.setIfInBounds_toArray, List.set_cons_zero, List.set_cons_succ, i64_w, i32_w, IntKind.wrap_u32]
                rfl
               refine take_ (i := 8) (N := some 49) (v := ?_) (a' := ?_) #[true, true, true, true, true, true, true, true, true, false, false, false, false, false, false, false, false, false, false, false, false, false, false, false] rfl rfl (take_ofW HT_.out HW_.out (by kernel_rfl)) (fun _ _ _ h => h) (Or.inl ⟨by rfl, ?_⟩) hHeld ?_ ?_
               rotate_left
               ·
                rintro w' ⟨s0, s1, s2, s3, s4, s5⟩
                go_simp
                with_reducible rfl
               rotate_left
               ·
                simp only [Act.put, List.setIfInBounds_toArray, List.set_cons_zero, List.set_cons_succ, i64_w, i32_w, IntKind.wrap_u32]
                rfl
               refine pure_ (i := 9) (N := some 50) (v := ?_) (a' := ?_) #[true, true, true, true, true, true, true, true, true, true, false, false, false, false, false, false, false, false, false, false, false, false, false, false] rfl rfl (any_of HT_.out (by kernel_rfl)) (fun _ _ _ h => h) (Or.inl ⟨by rfl, ?_⟩) ?_ ?_
               rotate_left
               ·
                intro w'
                go_simp
                with_reducible rfl
               rotate_left
               ·
                simp only [Act.put, List.setIfInBounds_toArray, List.set_cons_zero, List.set_cons_succ, i64_w, i32_w, IntKind.wrap_u32]
                rfl
               refine pure_ (i := 10) (N := some 51) (v := ?_) (a' := ?_) #[true, true, true, true, true, true, true, true, true, true, true, false, false, false, false, false, false, false, false, false, false, false, false, false] rfl rfl (any_of HT_.out (by kernel_rfl)) (fun _ _ _ h => h) (Or.inl ⟨by rfl, ?_⟩) ?_ ?_
               rotate_left
               ·
                intro w'
                go_simp
                with_reducible rfl
               rotate_left
               ·
                simp only [Act.put, List.setIfInBounds_toArray, List.set_cons_zero, List.set_cons_succ, i64_w, i32_w, IntKind.wrap_u32]
                rfl
               refine pure_ (i := 11) (N := some 52) (v := ?_) (a' := ?_) #[true, true, true, true, true, true, true, true, true, true, true, true, false, false, false, false, false, false, false, false, false, false, false, false] rfl rfl (any_of HT_.out (by kernel_rfl)) (fun _ _ _ h => h) (Or.inl ⟨by rfl, ?_⟩) ?_ ?_
               rotate_left
               ·
                intro w'
                go_simp
                with_reducible rfl
               rotate_left
               ·
                simp only [Act.put, List.setIfInBounds_toArray, List.set_cons_zero, List.set_cons_succ, i64_w, i32_w, IntKind.wrap_u32]
                rfl
               refine pure_ (i := 13) (N := some 54) (v := ?_) (a' := ?_) #[true, true, true, true, true, true, true, true, true, true, true, true, false, true, false, false, false, false, false, false, false, false, false, false] rfl rfl (any_of HT_.out (by kernel_rfl)) (fun _ _ _ h => h) (Or.inl ⟨by rfl, ?_⟩) ?_ ?_
               rotate_left
               ·
                intro w'
                go_simp
                with_reducible rfl
               rotate_left
               ·
                simp only [Act.put, List.setIfInBounds_toArray, List.set_cons_zero, List.set_cons_succ, i64_w, i32_w, IntKind.wrap_u32]
                rfl
               refine pure_ (i := 14) (N := some 55) (v := ?_) (a' := ?_) #[true, true, true, true, true, true, true, true, true, true, true, true, false, true, true, false, false, false, false, false, false, false, false, false] rfl rfl (any_of HT_.out (by kernel_rfl)) (fun _ _ _ h => h) (Or.inl ⟨by rfl, ?_⟩) ?_ ?_
               rotate_left
               ·
                intro w'
                go_simp
                with_reducible rfl
               rotate_left
               ·
                simp only [Act.put, List.setIfInBounds_toArray, List.set_cons_zero, List.set_cons_succ, i64_w, i32_w, IntKind.wrap_u32]
                rfl
               refine pure_ (i := 15) (N := some 56) (v := ?_) (a' := ?_) #[true, true, true, true, true, true, true, true, true, true, true, true, false, true, true, true, false, false, false, false, false, false, false, false] rfl rfl (any_of HT_.out (by kernel_rfl)) (fun _ _ _ h => h) (Or.inl ⟨by rfl, ?_⟩) ?_ ?_
               rotate_left
               ·
                intro w'
                go_simp
                with_reducible rfl
               rotate_left
               ·
                simp only [Act.put, List.setIfInBounds_toArray, List.set_cons_zero, List.set_cons_succ, i64_w, i32_w, IntKind.wrap_u32]
                rfl
               refine pure_ (i := 16) (N := some 57) (v := ?_) (a' := ?_) #[true, true, true, true, true, true, true, true, true, true, true, true, false, true, true, true, true, false, false, false, false, false, false, false] rfl rfl (any_of HT_.out (by kernel_rfl)) (fun _ _ _ h => h) (Or.inl ⟨by rfl, ?_⟩) ?_ ?_
               rotate_left
               ·
                intro w'
                go_simp
                with_reducible rfl
               rotate_left
               ·
                simp only [Act.put, List.setIfInBounds_toArray, List.set_cons_zero, List.set_cons_succ, i64_w, i32_w, IntKind.wrap_u32]
                rfl
               refine pure_ (i := 17) (N := some 58) (v := ?_) (a' := ?_) #[true, true, true, true, true, true, true, true, true, true, true, true, false, true, true, true, true, true, false, false, false, false, false, false] rfl rfl (any_of HT_.out (by kernel_rfl)) (fun _ _ _ h => h) (Or.inl ⟨by rfl, ?_⟩) ?_ ?_
               rotate_left
               ·
                intro w'
                go_simp
                with_reducible rfl
               rotate_left
               ·
                simp only [Act.put, List.setIfInBounds_toArray, List.set_cons_zero, List.set_cons_succ, i64_w, i32_w, IntKind.wrap_u32]
                rfl
               refine take_ (i := 12) (N := some 53) (v := ?_) (a' := ?_) #[true, true, true, true, true, true, true, true, true, true, true, true, true, true, true, true, true, true, false, false, false, false, false, false] rfl rfl (take_ofW HT_.out HW_.out (by kernel_rfl)) (fun _ _ _ h => h) (Or.inl ⟨by rfl, ?_⟩) hHeld ?_ ?_
               rotate_left
               ·
                rintro w' ⟨s0, s1, s2, s3, s4, s5⟩
                go_simp
                with_reducible rfl
               rotate_left
               ·
                simp only [Act.put, List.setIfInBounds_toArray, List.set_cons_zero, List.set_cons_succ, i64_w, i32_w, IntKind.wrap_u32]
                rfl
               refine take_ (i := 18) (N := some 59) (v := ?_) (a' := ?_) #[true, true, true, true, true, true, true, true, true, true, true, true, true, true, true, true, true, true, true, false, false, false, false, false] rfl rfl (take_ofW HT_.out HW_.out (by kernel_rfl)) (fun _ _ _ h => h) (Or.inl ⟨by rfl, ?_⟩) hHeld ?_ ?_
               rotate_left
               ·
                rintro w' ⟨s0, s1, s2, s3, s4, s5⟩
                go_simp
                with_reducible rfl
               rotate_left
               ·
                simp only [Act.put, List.setIfInBounds_toArray, List.set_cons_zero, List.set_cons_succ, i64_w, i32_w, IntKind.wrap_u32]
                rfl
               refine pure_ (i := 19) (N := some 60) (v := ?_) (a' := ?_) #[true, true, true, true, true, true, true, true, true, true, true, true, true, true, true, true, true, true, true, true, false, false, false, false] rfl rfl (any_of HT_.out (by kernel_rfl)) (fun _ _ _ h => h) (Or.inl ⟨by rfl, ?_⟩) ?_ ?_
               rotate_left
               ·
                intro w'
                go_simp
                with_reducible rfl
               rotate_left
               ·
                simp only [Act.put, List.setIfInBounds_toArray, List.set_cons_zero, List.set_cons_succ, i64_w, i32_w, IntKind.wrap_u32]
                rfl
               refine pure_ (i := 20) (N := some 61) (v := ?_) (a' := ?_) #[true, true, true, true, true, true, true, true, true, true, true, true, true, true, true, true, true, true, true, true, true, false, false, false] rfl rfl (any_of HT_.out (by kernel_rfl)) (fun _ _ _ h => h) (Or.inl ⟨by rfl, ?_⟩) ?_ ?_
               rotate_left
               ·
                intro w'
                go_simp
                with_reducible rfl
               rotate_left
               ·
                simp only [Act.put, List.setIfInBounds_toArray, List.set_cons_zero, List.set_cons_succ, i64_w, i32_w, IntKind.wrap_u32]
                rfl
               refine pure_ (i := 21) (N := some 62) (v := ?_) (a' := ?_) #[true, true, true, true, true, true, true, true, true, true, true, true, true, true, true, true, true, true, true, true, true, true, false, false] rfl rfl (any_of HT_.out (by kernel_rfl)) (fun _ _ _ h => h) (Or.inl ⟨by rfl, ?_⟩) ?_ ?_
               rotate_left
               ·
                intro w'
                go_simp
                with_reducible rfl
               rotate_left
               ·
                simp only [Act.put, List.setIfInBounds_toArray, List.set_cons_zero, List.set_cons_succ, i64_w, i32_w, IntKind.wrap_u32]
                rfl
               refine pure_ (i := 22) (N := some 63) (v := ?_) (a' := ?_) #[true, true, true, true, true, true, true, true, true, true, true, true, true, true, true, true, true, true, true, true, true, true, true, false] rfl rfl (any_of HT_.out (by kernel_rfl)) (fun _ _ _ h => h) (Or.inl ⟨by rfl, ?_⟩) ?_ ?_
               rotate_left
               ·
                intro w'
                go_simp
                with_reducible rfl
               rotate_left
               ·
                simp only [Act.put, List.setIfInBounds_toArray, List.set_cons_zero, List.set_cons_succ, i64_w, i32_w, IntKind.wrap_u32]
                rfl
               refine pure_ (i := 23) (N := some 40) (v := ?_) (a' := ?_) #[true, true, true, true, true, true, true, true, true, true, true, true, true, true, true, true, true, true, true, true, true, true, true, true] rfl rfl (any_of HT_.out (by kernel_rfl)) (fun _ _ _ h => h) (Or.inl ⟨by rfl, ?_⟩) ?_ ?_
               rotate_left
               ·
                intro w'
                go_simp
                with_reducible rfl
               rotate_left
               ·
                simp only [Act.put, List.setIfInBounds_toArray, List.set_cons_zero, List.set_cons_succ, i64_w, i32_w, IntKind.wrap_u32]
                rfl
               refine done_ (done_of HT_.out (by kernel_rfl)) ?_
               have hcz48_0 : w47.cell? ⟨gb8, 0, none⟩ = some (.int .u32 ((rd_T33 x28_2 x30_2).f0)) := (blk_cell BK8.out 0).trans rfl
               have hcz48_1 : w47.cell? ⟨gb8, 1, none⟩ = some (.int .u32 ((rd_T33 x28_2 x30_2).f1)) := (blk_cell BK8.out 1).trans rfl
               have hfz48_0 := blk_frozen BK8.out 0
               have hfz48_1 := blk_frozen BK8.out 1
               try go_wp2_with (first | ((with_reducible refine gate_builtin (b := .append) (xs := #[.tmp 36, .tmp 38]) rfl ?_); at_builtin; refine Kd.R_append k33 (w0 := w) w.heap.size rfl (.tmp 36) (.tmp 38) 24 33 (.agg #[(.int .u32 0), (.int .u32 0)]) 8 rfl Try.underlying24 info33 rfl (by decide) (by omega) (.slice (some ad9) x6_2.length co45) x6_2 (⟨(rd_T33 x28_2 x30_2).f0, (rd_T33 x28_2 x30_2).f1⟩ : S33) [.int .u32 ((rd_T33 x28_2 x30_2).f0), .int .u32 ((rd_T33 x28_2 x30_2).f1)] (fun k_ => some k_ ≠ (.slice (some ad7) x28_2.length co13 : Value).ownBlock ∧ k_ ≠ gb8) (fun _ => False) rfl rfl ?aP (fun _ hk => hk.elim) ?aF ?aO ?aB ?aS ?aL ?_; (case aP => exact k33_mkM _ _ _ (⟨(rd_T33 x28_2 x30_2).f0, (rd_T33 x28_2 x30_2).f1⟩ : S33)); (case aB => exact (by repeat (first | (with_reducible first | exact HB.out | apply below_alloc | apply pw_below_drewN | apply below_drew1 | refine below_set ?_ GE8.out) | exact HB.out))); (case aF => exact (fun k_ hk => ⟨Kd.fresh' (Kd.R_lt (by (with_reducible repeat (first | apply Kd.R_alloc | apply Kd.R_drewN | apply Kd.R_drew)); exact HO_28.out)) k_ hk, Kd.freshB (g := gb8) (o := .cells #[.int .u32 ((rd_T33 x28_2 x30_2).f0), .int .u32 ((rd_T33 x28_2 x30_2).f1)] 33 (0, 0)) (by (with_reducible repeat (first | refine blk_drewN ?_ _ | refine blk_drew ?_ | refine blk_alloc ?_ _)); exact BK8.out) k_ hk⟩)); (case aO => exact (by (with_reducible repeat (first | apply Kd.R_alloc | apply Kd.R_drewN | apply Kd.R_drew)); exact HO_6.out)); (case aS => exact (below_size (by repeat (first | (with_reducible first | exact HB.out | apply below_alloc | apply pw_below_drewN | apply below_drew1 | refine below_set ?_ GE8.out) | exact HB.out)))); (case aL => have := LMc42.out; omega); intro v16 w49 ho hb hg hat; rw [← Ny15.out] at ho; have n0_ := Aside0.mk (Kd.R_after (ok := (fun k_ => k_ ≠ gb8)) (by (with_reducible repeat (first | apply Kd.R_alloc | apply Kd.R_drewN | apply Kd.R_drew)); exact Kd.R_mono HO_28.out (fun _ hk => ⟨hk.2, hk.1⟩)) hg hat); have n1_ := Aside0.mk (blk_grown (g := gb8) (o := .cells #[.int .u32 ((rd_T33 x28_2 x30_2).f0), .int .u32 ((rd_T33 x28_2 x30_2).f1)] 33 (0, 0)) (by (with_reducible repeat (first | refine blk_drewN ?_ _ | refine blk_drew ?_ | refine blk_alloc ?_ _)); exact BK8.out) hg (Kd.R_away HO_6.out (fun _ hk => hk.2))); have n2_ := Aside0.mk (hb); have n3_ := Aside0.mk (ho); clear HO_28; clear BK8; clear HB; clear HO_6; have HO_28 := n0_; have BK8 := n1_; have HB := n2_; have HO17 := n3_; clear n0_ n1_ n2_ n3_; clear ho hb hg hat))
               (try simp only [← hl28_2])
               go_roundg k2
               case measure => have := HK1.out; have := HK2.out; omega
               case rel => exact ⟨(y15), (x28_2), (wrap64 (x30_2 + 1)), (by first | rfl | (simp; done) | (simp [*]; done)), H', ⟨by have := HK1.out; have := HK2.out; omega⟩, ⟨by (try simp only [hl28_2]); (with_reducible repeat (first | apply Kd.R_alloc | apply Kd.R_drewN | apply Kd.R_drew)); exact Kd.R_mono HO17.out (fun _ hk => hk.1)⟩, ⟨by (try simp only [hl28_2]); (with_reducible repeat (first | apply Kd.R_alloc | apply Kd.R_drewN | apply Kd.R_drew)); exact Kd.R_mono HO_28.out (fun _ hk => hk.2)⟩, ⟨by repeat (first | (with_reducible first | exact HB.out | apply below_alloc | apply pw_below_drewN | apply below_drew1 | refine below_set ?_ GE8.out) | exact HB.out)⟩⟩
              ·
               rw [if_neg c42] at H
               exact absurd H (by simp)
           ·
            rw [if_neg c21] at H
            exact absurd H (by simp)
          ·
           rw [if_neg c20] at H
           exact absurd H (by simp)
         ·
          rw [if_neg c18] at H
          have c18b0 : decide (0 < (x6_2.length : Int)) = false := decide_eq_false c18
          have c18b1 : decide (0 < x6_2.length) = false := decide_eq_false (by omega)
          clear c18
          by_cases c50 : x6_2.length < 17592186044416
          ·
           rw [if_pos c50] at H
           have LMc50 := Aside0.mk c50
           clear c50
           obtain ⟨y18, hy18⟩ : ∃ y_ : List (S33), y_ = (x6_2 ++ [(⟨(rd_T33 x28_2 x30_2).f0, (rd_T33 x28_2 x30_2).f1⟩ : S33)]) := ⟨_, rfl⟩
           replace H : (q2z.l1 k2 y18 x28_2 (x3_1.length : Int) (wrap64 (x30_2 + 1))) = some r := by first | (rw [hy18]; with_reducible exact H) | (have H2_ := (Option.bind_some _ _).symm.trans H; rw [hy18]; with_reducible exact H2_) | (have H2_ := (Option.bind_some _ _).symm.trans H; with_reducible exact H2_) | with_reducible exact H | (rw [hy18]; exact H) | exact H
           have Ny18 := Aside0.mk hy18
           clear hy18
           have H' := Aside0.mk H
           clear H
           have p7 : 0 ≤ (x30_2 : Int) := of_decide_eq_true (by first | (with_reducible assumption) | assumption)
           have q7 : x30_2 < (x28_2.length : Int) := of_decide_eq_true (by first | (with_reducible assumption) | assumption)
           obtain ⟨ad7, e7, hx7_0, hx7_1⟩ := at_T33 (Kd.R_reads' HO_28.out).2.2 x30_2 p7 q7
           cases e7
           replace p7 := eq_true p7
           replace q7 := eq_true q7
           try go_wp2_with (first | ((with_reducible refine gate_dst (N := 8) rfl ?_); refine box_event ?hg (N := 8) ?hd (cs := #[.int .u32 0, .int .u32 0]) (t := 33) ?hr ?_; (case hd => rfl); (case hg => rfl); (case hr => first | (go_simp; done) | (go_simp; rfl)); intro gb8 hg w51 hbox hb; have n0_ := Aside0.mk (Kd.R_below (Kd.R_elderB (by (with_reducible repeat (first | apply Kd.R_alloc | apply Kd.R_drewN | apply Kd.R_drew)); exact HO_6.out) gb8 (Nat.le_of_eq hg.symm)) hb); have n1_ := Aside0.mk (Kd.R_below (Kd.R_elderB (by (with_reducible repeat (first | apply Kd.R_alloc | apply Kd.R_drewN | apply Kd.R_drew)); exact HO_28.out) gb8 (Nat.le_of_eq hg.symm)) hb); have n2_ := Aside0.mk (below_step (by repeat (first | (with_reducible first | exact HB.out | apply below_alloc | apply pw_below_drewN | apply below_drew1) | exact HB.out)) hb); have n3_ := Aside0.mk (hbox); have n4_ := Aside0.mk ((by rw [hg]; exact (below_size (by repeat (first | (with_reducible first | exact HB.out | apply below_alloc | apply pw_below_drewN | apply below_drew1) | exact HB.out))) : w.heap.size ≤ gb8)); have n5_ := Aside0.mk ((by rw [hg]; exact (below_size (by repeat (first | (with_reducible first | exact HB.out | apply below_alloc | apply pw_below_drewN | apply below_drew1) | exact HB.out))) : w.heap.size ≤ gb8)); clear HO_6; clear HO_28; clear HB; have HO_6 := n0_; have HO_28 := n1_; have HB := n2_; have BK8 := n3_; have GW8 := n4_; have GE8 := n5_; clear n0_ n1_ n2_ n3_ n4_ n5_; clear hb hbox hg; have hcz52_0 : w51.cell? ⟨gb8, 0, none⟩ = some (.int .u32 0) := (blk_cell BK8.out 0).trans rfl; have hcz52_1 : w51.cell? ⟨gb8, 1, none⟩ = some (.int .u32 0) := (blk_cell BK8.out 1).trans rfl; have hfz52_0 := blk_frozen BK8.out 0; have hfz52_1 := blk_frozen BK8.out 1; obtain ⟨Ao53, co53, eo53⟩ := Kd.R_slice HO_6.out; subst eo53))
           have n0_ : Aside0 (Kd.R k33 33 ((w51.setCell ⟨gb8, 0, none⟩ (.int .u32 ((rd_T33 x28_2 x30_2).f0))).setCell ⟨gb8, 1, none⟩ (.int .u32 ((rd_T33 x28_2 x30_2).f1))) w.heap.size (fun k_ => some k_ ≠ (.slice (some ad7) x28_2.length co13 : Value).ownBlock ∧ k_ ≠ gb8) (.slice Ao53 x6_2.length co53) x6_2) := ⟨by (with_reducible repeat (first | apply Kd.R_alloc | apply Kd.R_drewN | apply Kd.R_drew)); exact Kd.R_mono (Kd.R_far (p := ⟨gb8, 1, none⟩) (Kd.R_far (p := ⟨gb8, 0, none⟩) (Kd.R_mono HO_6.out (fun k_ hk => (⟨hk, hk.2⟩ : _ ∧ k_ ≠ gb8))) (fun _ hk => hk.2) (.int .u32 ((rd_T33 x28_2 x30_2).f0))) (fun _ hk => hk.2) (.int .u32 ((rd_T33 x28_2 x30_2).f1))) (fun _ hk => ⟨hk.1.1, hk.1.2⟩)⟩
           have n1_ : Aside0 (Kd.R k33 33 ((w51.setCell ⟨gb8, 0, none⟩ (.int .u32 ((rd_T33 x28_2 x30_2).f0))).setCell ⟨gb8, 1, none⟩ (.int .u32 ((rd_T33 x28_2 x30_2).f1))) w.heap.size (fun k_ => some k_ ≠ (.slice Ao53 x6_2.length co53 : Value).ownBlock ∧ k_ ≠ gb8) (.slice (some ad7) x28_2.length co13) x28_2) := ⟨by (with_reducible repeat (first | apply Kd.R_alloc | apply Kd.R_drewN | apply Kd.R_drew)); exact Kd.R_mono (Kd.R_far (p := ⟨gb8, 1, none⟩) (Kd.R_far (p := ⟨gb8, 0, none⟩) (Kd.R_mono HO_28.out (fun k_ hk => (⟨hk, hk.2⟩ : _ ∧ k_ ≠ gb8))) (fun _ hk => hk.2) (.int .u32 ((rd_T33 x28_2 x30_2).f0))) (fun _ hk => hk.2) (.int .u32 ((rd_T33 x28_2 x30_2).f1))) (fun _ hk => ⟨hk.1.1, hk.1.2⟩)⟩
           have n2_ : Aside0 (((w51.setCell ⟨gb8, 0, none⟩ (.int .u32 ((rd_T33 x28_2 x30_2).f0))).setCell ⟨gb8, 1, none⟩ (.int .u32 ((rd_T33 x28_2 x30_2).f1))).heap[gb8]? = some (.cells #[.int .u32 ((rd_T33 x28_2 x30_2).f0), .int .u32 ((rd_T33 x28_2 x30_2).f1)] 33 (0, 0))) := ⟨by (with_reducible repeat (first | refine blk_drewN ?_ _ | refine blk_drew ?_ | refine blk_alloc ?_ _)); refine blk_put (cs := #[.int .u32 ((rd_T33 x28_2 x30_2).f0), .int .u32 0]) ?_ 1 _ rfl; (with_reducible repeat (first | refine blk_drewN ?_ _ | refine blk_drew ?_ | refine blk_alloc ?_ _)); refine blk_put (cs := #[.int .u32 0, .int .u32 0]) ?_ 0 _ rfl; (with_reducible repeat (first | refine blk_drewN ?_ _ | refine blk_drew ?_ | refine blk_alloc ?_ _)); exact BK8.out⟩
           have n3_ : Aside0 (Below w.heap.size w ((w51.setCell ⟨gb8, 0, none⟩ (.int .u32 ((rd_T33 x28_2 x30_2).f0))).setCell ⟨gb8, 1, none⟩ (.int .u32 ((rd_T33 x28_2 x30_2).f1)))) := ⟨by repeat (first | (with_reducible first | exact HB.out | apply below_alloc | apply pw_below_drewN | apply below_drew1 | refine below_set ?_ GE8.out) | exact HB.out)⟩
           (try clear HO_6)
           (try clear HO_28)
           (try clear BK8)
           (try clear HB)
           generalize ((w51.setCell ⟨gb8, 0, none⟩ (.int .u32 ((rd_T33 x28_2 x30_2).f0))).setCell ⟨gb8, 1, none⟩ (.int .u32 ((rd_T33 x28_2 x30_2).f1))) = w54 at n0_ n1_ n2_ n3_ ⊢
           have HO_6 := n0_
           have HO_28 := n1_
           have BK8 := n2_
           have HB := n3_
           clear n0_ n1_ n2_ n3_
           have n0_ := Aside0.mk (Kd.R_drew HO_6.out)
           have n1_ := Aside0.mk (Kd.R_drew HO_28.out)
           have n2_ := Aside0.mk (blk_drew BK8.out)
           have n3_ := Aside0.mk (below_drew1 HB.out)
           clear HO_6
           clear HO_28
           clear BK8
           clear HB
           have HO_6 := n0_
           have HO_28 := n1_
           have BK8 := n2_
           have HB := n3_
           clear n0_ n1_ n2_ n3_
           refine start_ (n := 24) (S := fun w' => True) (ds := []) #[false, false, false, false, false, false, false, false, false, false, false, false, false, false, false, false, false, false, false, false, false, false, false, false] (by kernel_rfl) rfl rfl trivial (fun hHeld => ?_); refine with_tabW q2z.tab15 q2z.bits15 (fun HT_ HW_ => ?_)
           generalize w54.drew = w55 at HO_6 HO_28 BK8 HB hHeld ⊢
           refine pure_ (i := 0) (N := some 41) (v := ?_) (a' := ?_) #[true, false, false, false, false, false, false, false, false, false, false, false, false, false, false, false, false, false, false, false, false, false, false, false] rfl rfl (any_of HT_.out (by kernel_rfl)) (fun _ _ _ h => h) (Or.inl ⟨by rfl, ?_⟩) ?_ ?_
           rotate_left
           ·
            intro w'
            go_simp
            with_reducible rfl
           rotate_left
           ·
            simp only [Act.put, List.setIfInBounds_toArray, List.set_cons_zero, List.set_cons_succ, i64_w, i32_w, IntKind.wrap_u32]
            rfl
           refine pure_ (i := 1) (N := some 42) (v := ?_) (a' := ?_) #[true, true, false, false, false, false, false, false, false, false, false, false, false, false, false, false, false, false, false, false, false, false, false, false] rfl rfl (any_of HT_.out (by kernel_rfl)) (fun _ _ _ h => h) (Or.inl ⟨by rfl, ?_⟩) ?_ ?_
           rotate_left
           ·
            intro w'
            go_simp
            with_reducible rfl
           rotate_left
           ·
            simp only [Act.put, List.setIfInBounds_toArray, List.set_cons_zero, List.set_cons_succ, i64_w, i32_w, IntKind.wrap_u32]
            rfl
           refine pure_ (i := 2) (N := some 43) (v := ?_) (a' := ?_) #[true, true, true, false, false, false, false, false, false, false, false, false, false, false, false, false, false, false, false, false, false, false, false, false] rfl rfl (any_of HT_.out (by kernel_rfl)) (fun _ _ _ h => h) (Or.inl ⟨by rfl, ?_⟩) ?_ ?_
           rotate_left
           ·
            intro w'
            go_simp
            with_reducible rfl
           rotate_left
           ·
            simp only [Act.put, List.setIfInBounds_toArray, List.set_cons_zero, List.set_cons_succ, i64_w, i32_w, IntKind.wrap_u32]
            rfl
           refine pure_ (i := 3) (N := some 44) (v := undef) (a' := ?_) #[true, true, true, true, false, false, false, false, false, false, false, false, false, false, false, false, false, false, false, false, false, false, false, false] rfl rfl (any_of HT_.out (by kernel_rfl)) (fun _ _ _ h => h) (Or.inr ⟨by rfl, rfl⟩) ?_ ?_
           rotate_left
           ·
            simp only [Act.put, List.setIfInBounds_toArray, List.set_cons_zero, List.set_cons_succ, i64_w, i32_w, IntKind.wrap_u32]
            rfl
           refine pure_ (i := 4) (N := some 45) (v := undef) (a' := ?_) #[true, true, true, true, true, false, false, false, false, false, false, false, false, false, false, false, false, false, false, false, false, false, false, false] rfl rfl (any_of HT_.out (by kernel_rfl)) (fun _ _ _ h => h) (Or.inr ⟨by rfl, rfl⟩) ?_ ?_
           rotate_left
           ·
            simp only [Act.put, List.setIfInBounds_toArray, List.set_cons_zero, List.set_cons_succ, i64_w, i32_w, IntKind.wrap_u32]
            rfl
           refine pure_ (i := 5) (N := some 46) (v := undef) (a' := ?_) #[true, true, true, true, true, true, false, false, false, false, false, false, false, false, false, false, false, false, false, false, false, false, false, false] rfl rfl (any_of HT_.out (by kernel_rfl)) (fun _ _ _ h => h) (Or.inr ⟨by rfl, rfl⟩) ?_ ?_
           rotate_left
           ·
            simp only [Act.put, List.setIfInBounds_toArray, List.set_cons_zero, List.set_cons_succ, i64_w, i32_w, IntKind.wrap_u32]
            rfl
           refine pure_ (i := 6) (N := some 47) (v := undef) (a' := ?_) #[true, true, true, true, true, true, true, false, false, false, false, false, false, false, false, false, false, false, false, false, false, false, false, false] rfl rfl (any_of HT_.out (by kernel_rfl)) (fun _ _ _ h => h) (Or.inr ⟨by rfl, rfl⟩) ?_ ?_
           rotate_left
           ·
            simp only [Act.put, List.setIfInBounds_toArray, List.set_cons_zero, List.set_cons_succ, i64_w, i32_w, IntKind.wrap_u32]
            rfl
           refine pure_ (i := 7) (N := some 48) (v := undef) (a' := ?_) #[true, true, true, true, true, true, true, true, false, false, false, false, false, false, false, false, false, false, false, false, false, false, false, false] rfl rfl (any_of HT_.out (by kernel_rfl)) (fun _ _ _ h => h) (Or.inr ⟨by rfl, rfl⟩) ?_ ?_
           rotate_left
           ·
            simp only [Act.put, List.setIfInBounds_toArray, List.set_cons_zero, List.set_cons_succ, i64_w, i32_w, IntKind.wrap_u32]
            rfl
           refine pure_ (i := 8) (N := some 49) (v := undef) (a' := ?_) #[true, true, true, true, true, true, true, true, true, false, false, false, false, false, false, false, false, false, false, false, false, false, false, false] rfl rfl (any_of HT_.out (by kernel_rfl)) (fun _ _ _ h => h) (Or.inr ⟨by rfl, rfl⟩) ?_ ?_
           rotate_left
           ·
            simp only [Act.put, List.setIfInBounds_toArray, List.set_cons_zero, List.set_cons_succ, i64_w, i32_w, IntKind.wrap_u32]
            rfl
           refine pure_ (i := 9) (N := some 50) (v := undef) (a' := ?_) #[true, true, true, true, true, true, true, true, true, true, false, false, false, false, false, false, false, false, false, false, false, false, false, false] rfl rfl (any_of HT_.out (by kernel_rfl)) (fun _ _ _ h => h) (Or.inr ⟨by rfl, rfl⟩) ?_ ?_
           rotate_left
           ·
            simp only [Act.put, List.setIfInBounds_toArray, List.set_cons_zero, List.set_cons_succ, i64_w, i32_w, IntKind.wrap_u32]
            rfl
           refine pure_ (i := 10) (N := some 51) (v := undef) (a' := ?_) #[true, true, true, true, true, true, true, true, true, true, true, false, false, false, false, false, false, false, false, false, false, false, false, false] rfl rfl (any_of HT_.out (by kernel_rfl)) (fun _ _ _ h => h) (Or.inr ⟨by rfl, rfl⟩) ?_ ?_
           rotate_left
           ·
            simp only [Act.put, List.setIfInBounds_toArray, List.set_cons_zero, List.set_cons_succ, i64_w, i32_w, IntKind.wrap_u32]
            rfl
           refine pure_ (i := 11) (N := some 52) (v := undef) (a' := ?_) #[true, true, true, true, true, true, true, true, true, true, true, true, false, false, false, false, false, false, false, false, false, false, false, false] rfl rfl (any_of HT_.out (by kernel_rfl)) (fun _ _ _ h => h) (Or.inr ⟨by rfl, rfl⟩) ?_ ?_
           rotate_left
           ·
            simp only [Act.put, List.setIfInBounds_toArray, List.set_cons_zero, List.set_cons_succ, i64_w, i32_w, IntKind.wrap_u32]
            rfl
           refine pure_ (i := 12) (N := some 53) (v := undef) (a' := ?_) #[true, true, true, true, true, true, true, true, true, true, true, true, true, false, false, false, false, false, false, false, false, false, false, false] rfl rfl (any_of HT_.out (by kernel_rfl)) (fun _ _ _ h => h) (Or.inr ⟨by rfl, rfl⟩) ?_ ?_
           rotate_left
           ·
            simp only [Act.put, List.setIfInBounds_toArray, List.set_cons_zero, List.set_cons_succ, i64_w, i32_w, IntKind.wrap_u32]
            rfl
           refine pure_ (i := 13) (N := some 54) (v := undef) (a' := ?_) #[true, true, true, true, true, true, true, true, true, true, true, true, true, true, false, false, false, false, false, false, false, false, false, false] rfl rfl (any_of HT_.out (by kernel_rfl)) (fun _ _ _ h => h) (Or.inr ⟨by rfl, rfl⟩) ?_ ?_
           rotate_left
           ·
            simp only [Act.put, List.setIfInBounds_toArray, List.set_cons_zero, List.set_cons_succ, i64_w, i32_w, IntKind.wrap_u32]
            rfl
           refine pure_ (i := 14) (N := some 55) (v := undef) (a' := ?_) #[true, true, true, true, true, true, true, true, true, true, true, true, true, true, true, false, false, false, false, false, false, false, false, false] rfl rfl (any_of HT_.out (by kernel_rfl)) (fun _ _ _ h => h) (Or.inr ⟨by rfl, rfl⟩) ?_ ?_
           rotate_left
           ·
            simp only [Act.put, List.setIfInBounds_toArray, List.set_cons_zero, List.set_cons_succ, i64_w, i32_w, IntKind.wrap_u32]
            rfl
           refine pure_ (i := 15) (N := some 56) (v := undef) (a' := ?_) #[true, true, true, true, true, true, true, true, true, true, true, true, true, true, true, true, false, false, false, false, false, false, false, false] rfl rfl (any_of HT_.out (by kernel_rfl)) (fun _ _ _ h => h) (Or.inr ⟨by rfl, rfl⟩) ?_ ?_
           rotate_left
           ·
            simp only [Act.put, List.setIfInBounds_toArray, List.set_cons_zero, List.set_cons_succ, i64_w, i32_w, IntKind.wrap_u32]
            rfl
           refine pure_ (i := 16) (N := some 57) (v := undef) (a' := ?_) #[true, true, true, true, true, true, true, true, true, true, true, true, true, true, true, true, true, false, false, false, false, false, false, false] rfl rfl (any_of HT_.out (by kernel_rfl)) (fun _ _ _ h => h) (Or.inr ⟨by rfl, rfl⟩) ?_ ?_
           rotate_left
           ·
            simp only [Act.put, List.setIfInBounds_toArray, List.set_cons_zero, List.set_cons_succ, i64_w, i32_w, IntKind.wrap_u32]
            rfl
           refine pure_ (i := 17) (N := some 58) (v := undef) (a' := ?_) #[true, true, true, true, true, true, true, true, true, true, true, true, true, true, true, true, true, true, false, false, false, false, false, false] rfl rfl (any_of HT_.out (by kernel_rfl)) (fun _ _ _ h => h) (Or.inr ⟨by rfl, rfl⟩) ?_ ?_
           rotate_left
           ·
            simp only [Act.put, List.setIfInBounds_toArray, List.set_cons_zero, List.set_cons_succ, i64_w, i32_w, IntKind.wrap_u32]
            rfl
           refine pure_ (i := 18) (N := some 59) (v := undef) (a' := ?_) #[true, true, true, true, true, true, true, true, true, true, true, true, true, true, true, true, true, true, true, false, false, false, false, false] rfl rfl (any_of HT_.out (by kernel_rfl)) (fun _ _ _ h => h) (Or.inr ⟨by rfl, rfl⟩) ?_ ?_
           rotate_left
           ·
            simp only [Act.put, List.setIfInBounds_toArray, List.set_cons_zero, List.set_cons_succ, i64_w, i32_w, IntKind.wrap_u32]
            rfl
           refine pure_ (i := 19) (N := some 60) (v := undef) (a' := ?_) #[true, true, true, true, true, true, true, true, true, true, true, true, true, true, true, true, true, true, true, true, false, false, false, false] rfl rfl (any_of HT_.out (by kernel_rfl)) (fun _ _ _ h => h) (Or.inr ⟨by rfl, rfl⟩) ?_ ?_
           rotate_left
           ·
            simp only [Act.put, List.setIfInBounds_toArray, List.set_cons_zero, List.set_cons_succ, i64_w, i32_w, IntKind.wrap_u32]
            rfl
           refine pure_ (i := 20) (N := some 61) (v := undef) (a' := ?_) #[true, true, true, true, true, true, true, true, true, true, true, true, true, true, true, true, true, true, true, true, true, false, false, false] rfl rfl (any_of HT_.out (by kernel_rfl)) (fun _ _ _ h => h) (Or.inr ⟨by rfl, rfl⟩) ?_ ?_
           rotate_left
           ·
            simp only [Act.put, List.setIfInBounds_toArray, List.set_cons_zero, List.set_cons_succ, i64_w, i32_w, IntKind.wrap_u32]
            rfl
           refine pure_ (i := 21) (N := some 62) (v := undef) (a' := ?_) #[true, true, true, true, true, true, true, true, true, true, true, true, true, true, true, true, true, true, true, true, true, true, false, false] rfl rfl (any_of HT_.out (by kernel_rfl)) (fun _ _ _ h => h) (Or.inr ⟨by rfl, rfl⟩) ?_ ?_
           rotate_left
           ·
            simp only [Act.put, List.setIfInBounds_toArray, List.set_cons_zero, List.set_cons_succ, i64_w, i32_w, IntKind.wrap_u32]
            rfl
           refine pure_ (i := 22) (N := some 63) (v := ?_) (a' := ?_) #[true, true, true, true, true, true, true, true, true, true, true, true, true, true, true, true, true, true, true, true, true, true, true, false] rfl rfl (any_of HT_.out (by kernel_rfl)) (fun _ _ _ h => h) (Or.inl ⟨by rfl, ?_⟩) ?_ ?_
           rotate_left
           ·
            intro w'
            go_simp
            with_reducible rfl
           rotate_left
           ·
            simp only [Act.put, List.setIfInBounds_toArray, List.set_cons_zero, List.set_cons_succ, i64_w, i32_w, IntKind.wrap_u32]
            rfl
           refine pure_ (i := 23) (N := some 40) (v := ?_) (a' := ?_) #[true, true, true, true, true, true, true, true, true, true, true, true, true, true, true, true, true, true, true, true, true, true, true, true] rfl rfl (any_of HT_.out (by kernel_rfl)) (fun _ _ _ h => h) (Or.inl ⟨by rfl, ?_⟩) ?_ ?_
           rotate_left
           ·
            intro w'
            go_simp
            with_reducible rfl
           rotate_left
           ·
            simp only [Act.put, List.setIfInBounds_toArray, List.set_cons_zero, List.set_cons_succ, i64_w, i32_w, IntKind.wrap_u32]
            rfl
           refine done_ (done_of HT_.out (by kernel_rfl)) ?_
           have hcz56_0 : w55.cell? ⟨gb8, 0, none⟩ = some (.int .u32 ((rd_T33 x28_2 x30_2).f0)) := (blk_cell BK8.out 0).trans rfl
           have hcz56_1 : w55.cell? ⟨gb8, 1, none⟩ = some (.int .u32 ((rd_T33 x28_2 x30_2).f1)) := (blk_cell BK8.out 1).trans rfl
           have hfz56_0 := blk_frozen BK8.out 0
           have hfz56_1 := blk_frozen BK8.out 1
           try go_wp2_with (first | ((with_reducible refine gate_builtin (b := .append) (xs := #[.tmp 36, .tmp 38]) rfl ?_); at_builtin; refine Kd.R_append k33 (w0 := w) w.heap.size rfl (.tmp 36) (.tmp 38) 24 33 (.agg #[(.int .u32 0), (.int .u32 0)]) 8 rfl Try.underlying24 info33 rfl (by decide) (by omega) (.slice Ao53 x6_2.length co53) x6_2 (⟨(rd_T33 x28_2 x30_2).f0, (rd_T33 x28_2 x30_2).f1⟩ : S33) [.int .u32 ((rd_T33 x28_2 x30_2).f0), .int .u32 ((rd_T33 x28_2 x30_2).f1)] (fun k_ => some k_ ≠ (.slice (some ad7) x28_2.length co13 : Value).ownBlock ∧ k_ ≠ gb8) (fun _ => False) rfl rfl ?aP (fun _ hk => hk.elim) ?aF ?aO ?aB ?aS ?aL ?_; (case aP => exact k33_mkM _ _ _ (⟨(rd_T33 x28_2 x30_2).f0, (rd_T33 x28_2 x30_2).f1⟩ : S33)); (case aB => exact (by repeat (first | (with_reducible first | exact HB.out | apply below_alloc | apply pw_below_drewN | apply below_drew1 | refine below_set ?_ GE8.out) | exact HB.out))); (case aF => exact (fun k_ hk => ⟨Kd.fresh' (Kd.R_lt (by (with_reducible repeat (first | apply Kd.R_alloc | apply Kd.R_drewN | apply Kd.R_drew)); exact HO_28.out)) k_ hk, Kd.freshB (g := gb8) (o := .cells #[.int .u32 ((rd_T33 x28_2 x30_2).f0), .int .u32 ((rd_T33 x28_2 x30_2).f1)] 33 (0, 0)) (by (with_reducible repeat (first | refine blk_drewN ?_ _ | refine blk_drew ?_ | refine blk_alloc ?_ _)); exact BK8.out) k_ hk⟩)); (case aO => exact (by (with_reducible repeat (first | apply Kd.R_alloc | apply Kd.R_drewN | apply Kd.R_drew)); exact HO_6.out)); (case aS => exact (below_size (by repeat (first | (with_reducible first | exact HB.out | apply below_alloc | apply pw_below_drewN | apply below_drew1 | refine below_set ?_ GE8.out) | exact HB.out)))); (case aL => have := LMc50.out; omega); intro v19 w57 ho hb hg hat; rw [← Ny18.out] at ho; have n0_ := Aside0.mk (Kd.R_after (ok := (fun k_ => k_ ≠ gb8)) (by (with_reducible repeat (first | apply Kd.R_alloc | apply Kd.R_drewN | apply Kd.R_drew)); exact Kd.R_mono HO_28.out (fun _ hk => ⟨hk.2, hk.1⟩)) hg hat); have n1_ := Aside0.mk (blk_grown (g := gb8) (o := .cells #[.int .u32 ((rd_T33 x28_2 x30_2).f0), .int .u32 ((rd_T33 x28_2 x30_2).f1)] 33 (0, 0)) (by (with_reducible repeat (first | refine blk_drewN ?_ _ | refine blk_drew ?_ | refine blk_alloc ?_ _)); exact BK8.out) hg (Kd.R_away HO_6.out (fun _ hk => hk.2))); have n2_ := Aside0.mk (hb); have n3_ := Aside0.mk (ho); clear HO_28; clear BK8; clear HB; clear HO_6; have HO_28 := n0_; have BK8 := n1_; have HB := n2_; have HO20 := n3_; clear n0_ n1_ n2_ n3_; clear ho hb hg hat))
           (try simp only [← hl28_2])
           go_roundg k2
           case measure => have := HK1.out; have := HK2.out; omega
           case rel => exact ⟨(y18), (x28_2), (wrap64 (x30_2 + 1)), (by first | rfl | (simp; done) | (simp [*]; done)), H', ⟨by have := HK1.out; have := HK2.out; omega⟩, ⟨by (try simp only [hl28_2]); (with_reducible repeat (first | apply Kd.R_alloc | apply Kd.R_drewN | apply Kd.R_drew)); exact Kd.R_mono HO20.out (fun _ hk => hk.1)⟩, ⟨by (try simp only [hl28_2]); (with_reducible repeat (first | apply Kd.R_alloc | apply Kd.R_drewN | apply Kd.R_drew)); exact Kd.R_mono HO_28.out (fun _ hk => hk.2)⟩, ⟨by repeat (first | (with_reducible first | exact HB.out | apply below_alloc | apply pw_below_drewN | apply below_drew1 | refine below_set ?_ GE8.out) | exact HB.out)⟩⟩
          ·
           rw [if_neg c50] at H
           exact absurd H (by simp)
        ·
         rw [if_neg c17] at H
         exact absurd H (by simp)
       ·
        rw [if_neg c16] at H
        exact absurd H (by simp)
      ·
       rw [if_neg c15] at H
       have c15b0 : decide (x30_2 < (x3_1.length : Int)) = false := decide_eq_false c15
       have c15bb : decide (x30_2 < (x28_2.length : Int)) = false := by rw [← hl28_2]; exact c15b0
       clear c15
       obtain rfl := Option.some.inj H
       go_wp2
       go_ret
       exact ⟨_, by first | rfl | (simp [errW_none, errW_some] <;> rfl) | (simp [*, errW_none, errW_some] <;> rfl), by (with_reducible repeat (first | apply Kd.R_alloc | apply Kd.R_drewN | apply Kd.R_drew)); exact Kd.R_mono HO_6.out (fun _ hk => trivial), by repeat (first | (with_reducible first | exact HB.out | apply below_alloc | apply pw_below_drewN | apply below_drew1) | exact HB.out)⟩

end Go.Proofs.Ytconaifcjnpabaa.P

namespace Go.Proofs.Ytconaifcjnpabaa.P
open Go.RowKit Go.Proofs.YtconaifcjnpabaaW.PrintWords Go.Proofs.YtconaifcjnpabaaW.PrintLast Go.Proofs.YtconaifcjnpabaaW.PrintMore
attribute [local go_sem] max2_int min2_int max_two min_two max_three min_three max_four min_four
set_option linter.unusedVariables false
set_option linter.unusedSimpArgs false

/-! ### span_Atoms: function 11 -/
mutual
def q3z.l0 : Nat → List Int → List (List (S33)) → Int → Int → Option ((List (S33)))
 | 0, _, _, _, _ => none
 | k + 1, x3, x11, x12, x13 => if x13 < x12 then (if 0 ≤ x13 then (if x13 < (x11.length : Int) then ((q2z.f k (rd_L2 x11 x13)).bind fun t2 => (q3z.l1 k x3 x11 x12 x13 t2 (t2.length : Int) 0)) else (none)) else (none)) else ((Sort_u32.f k x3).bind fun t13 => ((Compact_u32.f t13).bind fun t14 => (if (t14.length : Int) > 0 then (if 0 < (t14.length : Int) then (q3z.j2 k t14 ((rd t14 0) == 0)) else (none)) else (q3z.j2 k t14 false))))
def q3z.l1 : Nat → List Int → List (List (S33)) → Int → Int → List (S33) → Int → Int → Option ((List (S33)))
 | 0, _, _, _, _, _, _, _ => none
 | k + 1, x3, x11, x12, x13, x18, x19, x20 => if x20 < x19 then (if 0 ≤ x20 then (if x20 < (x18.length : Int) then (if x3.length < 35184372088832 then ((some (x3 ++ [(rd_T33 x18 x20).f0] : List Int)).bind fun y7 => (if ((rd_T33 x18 x20).f1) < 4294967295 then (if y7.length < 35184372088832 then (q3z.l1 k (y7 ++ [(((rd_T33 x18 x20).f1) + 1) % 4294967296]) x11 x12 x13 x18 x19 (wrap64 (x20 + 1))) else (none)) else (q3z.l1 k y7 x11 x12 x13 x18 x19 (wrap64 (x20 + 1))))) else (none)) else (none)) else (none)) else (q3z.l0 k x3 x11 x12 (wrap64 (x13 + 1)))
def q3z.j2 : Nat → List Int → Bool → Option ((List (S33)))
 | 0, _, _ => none
 | k + 1, x3, x52 => if x52 = true then (if 1 ≤ (x3.length : Int) then (q3z.j3 k (x3.drop (1 : Int).toNat)) else (none)) else (q3z.j3 k x3)
def q3z.j3 : Nat → List Int → Option ((List (S33)))
 | 0, _ => none
 | k + 1, x3 => q3z.l2 k (([(⟨0, 4294967295⟩ : S33)] : List (S33))) x3 (x3.length : Int) 0
def q3z.l2 : Nat → List (S33) → List Int → Int → Int → Option ((List (S33)))
 | 0, _, _, _, _ => none
 | k + 1, x8, x57, x58, x59 => if x59 < x58 then (if 0 ≤ x59 then (if x59 < (x57.length : Int) then (if 0 ≤ (wrap64 ((x8.length : Int) - 1)) then (if (wrap64 ((x8.length : Int) - 1)) < (x8.length : Int) then ((some (x8.set ((wrap64 ((x8.length : Int) - 1)) : Int).toNat (⟨(rd_T33 x8 (wrap64 ((x8.length : Int) - 1))).f0, ((rd x57 x59) - 1) % 4294967296⟩ : S33) : List (S33))).bind fun y25 => (if y25.length < 17592186044416 then (q3z.l2 k (y25 ++ [(⟨rd x57 x59, 4294967295⟩ : S33)]) x57 x58 (wrap64 (x59 + 1))) else (none))) else (none)) else (none)) else (none)) else (none)) else (some x8)
end
def q3z.f (k : Nat) (l0 : List (List (S33))) : Option ((List (S33))) := q3z.l0 k ([] : List Int) l0 (l0.length : Int) 0
theorem q3z.mono_l : ∀ k, (∀ y0 y1 y2 y3, LeO (q3z.l0 k y0 y1 y2 y3) (q3z.l0 (k + 1) y0 y1 y2 y3)) ∧ (∀ y0 y1 y2 y3 y4 y5 y6, LeO (q3z.l1 k y0 y1 y2 y3 y4 y5 y6) (q3z.l1 (k + 1) y0 y1 y2 y3 y4 y5 y6)) ∧ (∀ y0 y1, LeO (q3z.j2 k y0 y1) (q3z.j2 (k + 1) y0 y1)) ∧ (∀ y0, LeO (q3z.j3 k y0) (q3z.j3 (k + 1) y0)) ∧ (∀ y0 y1 y2 y3, LeO (q3z.l2 k y0 y1 y2 y3) (q3z.l2 (k + 1) y0 y1 y2 y3))
 | 0 => ⟨fun _ _ _ _ r h => by simp [q3z.l0] at h, fun _ _ _ _ _ _ _ r h => by simp [q3z.l1] at h, fun _ _ r h => by simp [q3z.j2] at h, fun _ r h => by simp [q3z.j3] at h, fun _ _ _ _ r h => by simp [q3z.l2] at h⟩
 | k + 1 => by
  obtain ⟨ih0, ih1, ih2, ih3, ih4⟩ := q3z.mono_l k
  refine ⟨?_, ?_, ?_, ?_, ?_⟩
  ·
   intro y0 y1 y2 y3
   unfold q3z.l0
   repeat' first
   | (with_reducible exact ih0 _ _ _ _)
   | (with_reducible exact ih1 _ _ _ _ _ _ _)
   | (with_reducible exact ih2 _ _)
   | (with_reducible exact ih3 _)
   | (with_reducible exact ih4 _ _ _ _)
   | (with_reducible exact Sort_u32.mono _ _)
   | (with_reducible exact q2z.mono _ _)
   | (with_reducible exact LeO.refl _)
   | (with_reducible exact LeO.none _)
   | (with_reducible refine LeO.ite ?_ ?_)
   | (with_reducible refine LeO.bind ?_ (fun _ => ?_))
   | exact ih0 _ _ _ _
   | exact ih1 _ _ _ _ _ _ _
   | exact ih2 _ _
   | exact ih3 _
   | exact ih4 _ _ _ _
   | exact Sort_u32.mono _ _
   | exact q2z.mono _ _
   | exact LeO.none _
   | refine LeO.ite ?_ ?_
   | refine LeO.bind ?_ (fun _ => ?_)
  ·
   intro y0 y1 y2 y3 y4 y5 y6
   unfold q3z.l1
   repeat' first
   | (with_reducible exact ih0 _ _ _ _)
   | (with_reducible exact ih1 _ _ _ _ _ _ _)
   | (with_reducible exact ih2 _ _)
   | (with_reducible exact ih3 _)
   | (with_reducible exact ih4 _ _ _ _)
   | (with_reducible exact Sort_u32.mono _ _)
   | (with_reducible exact q2z.mono _ _)
   | (with_reducible exact LeO.refl _)
   | (with_reducible exact LeO.none _)
   | (with_reducible refine LeO.ite ?_ ?_)
   | (with_reducible refine LeO.bind ?_ (fun _ => ?_))
   | exact ih0 _ _ _ _
   | exact ih1 _ _ _ _ _ _ _
   | exact ih2 _ _
   | exact ih3 _
   | exact ih4 _ _ _ _
   | exact Sort_u32.mono _ _
   | exact q2z.mono _ _
   | exact LeO.none _
   | refine LeO.ite ?_ ?_
   | refine LeO.bind ?_ (fun _ => ?_)
  ·
   intro y0 y1
   unfold q3z.j2
   repeat' first
   | (with_reducible exact ih0 _ _ _ _)
   | (with_reducible exact ih1 _ _ _ _ _ _ _)
   | (with_reducible exact ih2 _ _)
   | (with_reducible exact ih3 _)
   | (with_reducible exact ih4 _ _ _ _)
   | (with_reducible exact Sort_u32.mono _ _)
   | (with_reducible exact q2z.mono _ _)
   | (with_reducible exact LeO.refl _)
   | (with_reducible exact LeO.none _)
   | (with_reducible refine LeO.ite ?_ ?_)
   | (with_reducible refine LeO.bind ?_ (fun _ => ?_))
   | exact ih0 _ _ _ _
   | exact ih1 _ _ _ _ _ _ _
   | exact ih2 _ _
   | exact ih3 _
   | exact ih4 _ _ _ _
   | exact Sort_u32.mono _ _
   | exact q2z.mono _ _
   | exact LeO.none _
   | refine LeO.ite ?_ ?_
   | refine LeO.bind ?_ (fun _ => ?_)
  ·
   intro y0
   unfold q3z.j3
   repeat' first
   | (with_reducible exact ih0 _ _ _ _)
   | (with_reducible exact ih1 _ _ _ _ _ _ _)
   | (with_reducible exact ih2 _ _)
   | (with_reducible exact ih3 _)
   | (with_reducible exact ih4 _ _ _ _)
   | (with_reducible exact Sort_u32.mono _ _)
   | (with_reducible exact q2z.mono _ _)
   | (with_reducible exact LeO.refl _)
   | (with_reducible exact LeO.none _)
   | (with_reducible refine LeO.ite ?_ ?_)
   | (with_reducible refine LeO.bind ?_ (fun _ => ?_))
   | exact ih0 _ _ _ _
   | exact ih1 _ _ _ _ _ _ _
   | exact ih2 _ _
   | exact ih3 _
   | exact ih4 _ _ _ _
   | exact Sort_u32.mono _ _
   | exact q2z.mono _ _
   | exact LeO.none _
   | refine LeO.ite ?_ ?_
   | refine LeO.bind ?_ (fun _ => ?_)
  ·
   intro y0 y1 y2 y3
   unfold q3z.l2
   repeat' first
   | (with_reducible exact ih0 _ _ _ _)
   | (with_reducible exact ih1 _ _ _ _ _ _ _)
   | (with_reducible exact ih2 _ _)
   | (with_reducible exact ih3 _)
   | (with_reducible exact ih4 _ _ _ _)
   | (with_reducible exact Sort_u32.mono _ _)
   | (with_reducible exact q2z.mono _ _)
   | (with_reducible exact LeO.refl _)
   | (with_reducible exact LeO.none _)
   | (with_reducible refine LeO.ite ?_ ?_)
   | (with_reducible refine LeO.bind ?_ (fun _ => ?_))
   | exact ih0 _ _ _ _
   | exact ih1 _ _ _ _ _ _ _
   | exact ih2 _ _
   | exact ih3 _
   | exact ih4 _ _ _ _
   | exact Sort_u32.mono _ _
   | exact q2z.mono _ _
   | exact LeO.none _
   | refine LeO.ite ?_ ?_
   | refine LeO.bind ?_ (fun _ => ?_)
theorem q3z.mono : ∀ a0 k, LeO (q3z.f k a0) (q3z.f (k + 1) a0) := by
 intro a0 k
 obtain ⟨ih0, ih1, ih2, ih3, ih4⟩ := q3z.mono_l k
 unfold q3z.f
 repeat' first
   | (with_reducible exact ih0 _ _ _ _)
   | (with_reducible exact ih1 _ _ _ _ _ _ _)
   | (with_reducible exact ih2 _ _)
   | (with_reducible exact ih3 _)
   | (with_reducible exact ih4 _ _ _ _)
   | (with_reducible exact Sort_u32.mono _ _)
   | (with_reducible exact q2z.mono _ _)
   | (with_reducible exact LeO.refl _)
   | (with_reducible exact LeO.none _)
   | (with_reducible refine LeO.ite ?_ ?_)
   | (with_reducible refine LeO.bind ?_ (fun _ => ?_))
   | exact ih0 _ _ _ _
   | exact ih1 _ _ _ _ _ _ _
   | exact ih2 _ _
   | exact ih3 _
   | exact ih4 _ _ _ _
   | exact Sort_u32.mono _ _
   | exact q2z.mono _ _
   | exact LeO.none _
   | refine LeO.ite ?_ ?_
   | refine LeO.bind ?_ (fun _ => ?_)
set_option maxHeartbeats 8000000 in
set_option maxRecDepth 100000 in
theorem q3z.calls (k : Nat) (A0 : Option Addr) (c0 : Nat) (l0 : List (List (S33))) (r : List (S33)) (w : World) (hr0 : Kd.C (Kd.slice 33 k33) w A0 l0.length l0) (hc0 : l0.length ≤ c0) (h : q3z.f k l0 = some r) :
  Calls Try.prog 11 #[.slice A0 l0.length c0] w fun e w' => ∃ v0_ : Value, e = .returned (v0_) ∧ Kd.R k33 33 w' w.heap.size (fun _ => True) v0_ r ∧ Below w.heap.size w w' := by
 have hu33 := Try.underlying33
 have HR0 := Aside0.mk hr0
 have HC0 := Aside0.mk hc0
 clear hr0 hc0
 have HB := Aside0.mk (Below.refl w.heap.size w)
 have H : (q3z.l0 k ([] : List Int) l0 (l0.length : Int) 0) = some r := h
 clear h
 have H' := Aside0.mk H
 clear H
 go_enter Try.func11, Try.ntmps11
 go_wp2
 go_loopg [3, 13] k (fun kq v3 v13 w' => ∃ (x3_1 : List Int) (x13_1 : Int), v13 = .int .i64 x13_1 ∧ Aside0 (q3z.l0 kq x3_1 l0 (l0.length : Int) x13_1 = some r) ∧ Aside0 (kq ≤ k) ∧ Aside0 (Kd.R (Kd.int .u32) 29 w' w.heap.size (fun _ => True) v3 x3_1) ∧ Aside0 (Below w.heap.size w w'))
 case atStart => exact ⟨(([] : List Int)), (0), (by first | rfl | (simp; done) | (simp [*]; done)), H', ⟨Nat.le_refl _⟩, ⟨by first | exact Kd.R_nil _ _ _ _ _ | exact Kd.N_nil _ _ _ _ _ | exact Kd.V_nil _ _ _ _ _ | exact Kd.Q_nil _ _ _ _ _ | exact Kd.S_nil _ _ _ _ _⟩, ⟨by repeat (first | (with_reducible first | exact HB.out | apply below_alloc | apply pw_below_drewN | apply below_drew1) | exact HB.out)⟩⟩
 case round =>
  clear H'
  try clear c1
  obtain ⟨x3_1, x13_1, rfl, HA, HK1, HO_3, HB⟩ := hrel
  cases gk with
  | zero => exact absurd HA.out (by simp [q3z.l0])
  | succ k1 =>
   have H := HA.out
   clear HA
   simp only [q3z.l0] at H
   by_cases c2 : x13_1 < (l0.length : Int)
   ·
    rw [if_pos c2] at H
    have c2b0 : decide (x13_1 < (l0.length : Int)) = true := decide_eq_true c2
    clear c2
    by_cases c3 : 0 ≤ x13_1
    ·
     rw [if_pos c3] at H
     have c3b0 : decide (0 ≤ x13_1) = true := decide_eq_true c3
     clear c3
     by_cases c4 : x13_1 < (l0.length : Int)
     ·
      rw [if_pos c4] at H
      have c4b0 : decide (x13_1 < (l0.length : Int)) = true := decide_eq_true c4
      clear c4
      replace H := Option.bind_eq_some_iff.mp H
      obtain ⟨t2, A50, H⟩ := H
      replace H : (q3z.l1 k1 x3_1 l0 (l0.length : Int) x13_1 t2 (t2.length : Int) 0) = some r := H
      have A5 := Aside0.mk A50
      clear A50
      have H' := Aside0.mk H
      clear H
      have p1 : 0 ≤ (x13_1 : Int) := of_decide_eq_true (by first | (with_reducible assumption) | assumption)
      have q1 : x13_1 < (l0.length : Int) := of_decide_eq_true (by first | (with_reducible assumption) | assumption)
      obtain ⟨ad1, A1_0, c1_0, e1, hx1_0, hl1_0, hi1_0⟩ := at_L2 HR0.out x13_1 p1 q1
      cases e1
      replace hx1_0 := (HB.out.cell (World.block_lt_of_cell? w _ hx1_0)).trans hx1_0
      have HR1_0 := Aside0.mk hi1_0
      have HC1_0 := Aside0.mk hl1_0
      clear hi1_0 hl1_0
      replace p1 := eq_true p1
      replace q1 := eq_true q1
      go_wp2_with (first | ((with_reducible refine gate_callee (f := 14) rfl ?_); refine goesL_ (some 18) rfl rfl Try.func14 (by kernel_rfl) rfl #[.slice A1_0 (rd_L2 l0 x13_1).length c1_0] rfl (by (try simp only [List.map_toArray, List.map_cons, List.map_nil]); first | done | rfl | (simp only [List.length_drop, List.length_take]; rfl)) ?_; (with_reducible refine (q2z.calls k1 _ _ (rd_L2 l0 x13_1) t2 _ ?side1 ?side2 A5.out).mono ?_); (case side1 => repeat (first | exact (Kd.C_below HR1_0.out HB.out) | (with_reducible refine Kd.C_alloc ?_ _) | (with_reducible refine Kd.C_drewN ?_ _) | (with_reducible refine Kd.C_drew ?_))); (case side2 => exact HC1_0.out); rintro e w6 ⟨v3, rfl, ho0, hb⟩; refine ⟨_, rfl, ?_⟩; have n0_ := Aside0.mk (Kd.R_below (by (with_reducible repeat (first | apply Kd.R_alloc | apply Kd.R_drewN | apply Kd.R_drew)); exact HO_3.out) hb); have n1_ := Aside0.mk (Kd.R_lower ho0 (below_size (by repeat (first | (with_reducible first | exact HB.out | apply below_alloc | apply pw_below_drewN | apply below_drew1) | exact HB.out)))); have n2_ := Aside0.mk (below_step (by repeat (first | (with_reducible first | exact HB.out | apply below_alloc | apply pw_below_drewN | apply below_drew1) | exact HB.out)) hb); clear HO_3; clear HB; have HO_3 := n0_; have HO4 := n1_; have HB := n2_; clear n0_ n1_ n2_; (try clear hb); (try clear hb2); (try clear hk); (try clear hi); (try clear ho0); obtain ⟨Ao7, co7, eo7⟩ := Kd.R_slice HO4.out; subst eo7))
      go_loopg [3, 20] k1 (fun kq v3 v20 w' => ∃ (x3_2 : List Int) (x20_2 : Int), v20 = .int .i64 x20_2 ∧ Aside0 (q3z.l1 kq x3_2 l0 (l0.length : Int) x13_1 t2 (t2.length : Int) x20_2 = some r) ∧ Aside0 (kq ≤ k1) ∧ Aside0 (Kd.R (Kd.int .u32) 29 w' w.heap.size (fun _ => True) v3 x3_2) ∧ Aside0 (Kd.R k33 33 w' w.heap.size (fun _ => True) (.slice Ao7 t2.length co7) t2) ∧ Aside0 (Below w.heap.size w w'))
      case atStart => exact ⟨(x3_1), (0), (by first | rfl | (simp; done) | (simp [*]; done)), H', ⟨Nat.le_refl _⟩, ⟨by (with_reducible repeat (first | apply Kd.R_alloc | apply Kd.R_drewN | apply Kd.R_drew)); exact HO_3.out⟩, ⟨by (with_reducible repeat (first | apply Kd.R_alloc | apply Kd.R_drewN | apply Kd.R_drew)); exact HO4.out⟩, ⟨by repeat (first | (with_reducible first | exact HB.out | apply below_alloc | apply pw_below_drewN | apply below_drew1) | exact HB.out)⟩⟩
      case round =>
       clear H'
       try clear c1
       try clear p1
       try clear q1
       try clear hx1
       try clear c2
       try clear c2b0
       try clear p2
       try clear c3
       try clear c3b0
       try clear c4
       try clear c4b0
       try clear hx1_0
       try clear p1
       try clear q1
       obtain ⟨x3_2, x20_2, rfl, HA, HK2, HO_3, HO_18, HB⟩ := hrel
       cases gk with
       | zero => exact absurd HA.out (by simp [q3z.l1])
       | succ k2 =>
        have H := HA.out
        clear HA
        simp only [q3z.l1] at H
        by_cases c8 : x20_2 < (t2.length : Int)
        ·
         rw [if_pos c8] at H
         have c8b0 : decide (x20_2 < (t2.length : Int)) = true := decide_eq_true c8
         clear c8
         by_cases c9 : 0 ≤ x20_2
         ·
          rw [if_pos c9] at H
          have c9b0 : decide (0 ≤ x20_2) = true := decide_eq_true c9
          clear c9
          by_cases c10 : x20_2 < (t2.length : Int)
          ·
           rw [if_pos c10] at H
           have c10b0 : decide (x20_2 < (t2.length : Int)) = true := decide_eq_true c10
           clear c10
           by_cases c11 : x3_2.length < 35184372088832
           ·
            rw [if_pos c11] at H
            have LMc11 := Aside0.mk c11
            clear c11
            obtain ⟨y7, hy7⟩ : ∃ y_ : List Int, y_ = (x3_2 ++ [(rd_T33 t2 x20_2).f0]) := ⟨_, rfl⟩
            replace H : (if ((rd_T33 t2 x20_2).f1) < 4294967295 then (if y7.length < 35184372088832 then (q3z.l1 k2 (y7 ++ [(((rd_T33 t2 x20_2).f1) + 1) % 4294967296]) l0 (l0.length : Int) x13_1 t2 (t2.length : Int) (wrap64 (x20_2 + 1))) else (none)) else (q3z.l1 k2 y7 l0 (l0.length : Int) x13_1 t2 (t2.length : Int) (wrap64 (x20_2 + 1)))) = some r := by first | (rw [hy7]; with_reducible exact H) | (have H2_ := (Option.bind_some _ _).symm.trans H; rw [hy7]; with_reducible exact H2_) | (have H2_ := (Option.bind_some _ _).symm.trans H; with_reducible exact H2_) | with_reducible exact H | (rw [hy7]; exact H) | exact H
            have Ny7 := Aside0.mk hy7
            clear hy7
            by_cases c12 : ((rd_T33 t2 x20_2).f1) < 4294967295
            ·
             rw [if_pos c12] at H
             have c12b0 : decide (((rd_T33 t2 x20_2).f1) < 4294967295) = true := decide_eq_true c12
             clear c12
             by_cases c13 : y7.length < 35184372088832
             ·
              rw [if_pos c13] at H
              have LMc13 := Aside0.mk c13
              clear c13
              obtain ⟨y10, hy10⟩ : ∃ y_ : List Int, y_ = (y7 ++ [(((rd_T33 t2 x20_2).f1) + 1) % 4294967296]) := ⟨_, rfl⟩
              replace H : (q3z.l1 k2 y10 l0 (l0.length : Int) x13_1 t2 (t2.length : Int) (wrap64 (x20_2 + 1))) = some r := by first | (rw [hy10]; with_reducible exact H) | (have H2_ := (Option.bind_some _ _).symm.trans H; rw [hy10]; with_reducible exact H2_) | (have H2_ := (Option.bind_some _ _).symm.trans H; with_reducible exact H2_) | with_reducible exact H | (rw [hy10]; exact H) | exact H
              have Ny10 := Aside0.mk hy10
              clear hy10
              have H' := Aside0.mk H
              clear H
              have p5 : 0 ≤ (x20_2 : Int) := of_decide_eq_true (by first | (with_reducible assumption) | assumption)
              have q5 : x20_2 < (t2.length : Int) := of_decide_eq_true (by first | (with_reducible assumption) | assumption)
              obtain ⟨ad5, e5, hx5_0, hx5_1⟩ := at_T33 (Kd.R_reads' HO_18.out).2.2 x20_2 p5 q5
              cases e5
              replace p5 := eq_true p5
              replace q5 := eq_true q5
              go_wp2_with (first | ((with_reducible refine gate_dst (N := 7) rfl ?_); refine box_event ?hg (N := 7) ?hd (cs := #[.int .u32 0, .int .u32 0]) (t := 33) ?hr ?_; (case hd => rfl); (case hg => rfl); (case hr => first | (go_simp; done) | (go_simp; rfl)); intro gb6 hg w14 hbox hb; have n0_ := Aside0.mk (Kd.R_below (by (with_reducible repeat (first | apply Kd.R_alloc | apply Kd.R_drewN | apply Kd.R_drew)); exact HO_3.out) hb); have n1_ := Aside0.mk (Kd.R_below (Kd.R_elderB (by (with_reducible repeat (first | apply Kd.R_alloc | apply Kd.R_drewN | apply Kd.R_drew)); exact HO_18.out) gb6 (Nat.le_of_eq hg.symm)) hb); have n2_ := Aside0.mk (below_step (by repeat (first | (with_reducible first | exact HB.out | apply below_alloc | apply pw_below_drewN | apply below_drew1) | exact HB.out)) hb); have n3_ := Aside0.mk (hbox); have n4_ := Aside0.mk ((by rw [hg]; exact (below_size (by repeat (first | (with_reducible first | exact HB.out | apply below_alloc | apply pw_below_drewN | apply below_drew1) | exact HB.out))) : w.heap.size ≤ gb6)); have n5_ := Aside0.mk ((by rw [hg]; exact (below_size (by repeat (first | (with_reducible first | exact HB.out | apply below_alloc | apply pw_below_drewN | apply below_drew1) | exact HB.out))) : w.heap.size ≤ gb6)); clear HO_3; clear HO_18; clear HB; have HO_3 := n0_; have HO_18 := n1_; have HB := n2_; have BK6 := n3_; have GW6 := n4_; have GE6 := n5_; clear n0_ n1_ n2_ n3_ n4_ n5_; clear hb hbox hg; have hcz15_0 : w14.cell? ⟨gb6, 0, none⟩ = some (.int .u32 0) := (blk_cell BK6.out 0).trans rfl; have hcz15_1 : w14.cell? ⟨gb6, 1, none⟩ = some (.int .u32 0) := (blk_cell BK6.out 1).trans rfl; have hfz15_0 := blk_frozen BK6.out 0; have hfz15_1 := blk_frozen BK6.out 1) | ((with_reducible refine gate_builtin (b := .append) (xs := #[.tmp 24, .tmp 27]) rfl ?_); at_builtin; refine Kd.R_append (Kd.int .u32) (w0 := w) w.heap.size rfl (.tmp 24) (.tmp 27) 37 29 (.int .u32 0) 4 rfl Try.underlying37 info29 rfl (by decide) (by omega) u3 x3_2 ((rd_T33 t2 x20_2).f0) [.int .u32 ((rd_T33 t2 x20_2).f0)] (fun _ => True) (fun _ => False) rfl (by first | (go_simp; done) | (go_simp; rfl)) ?aP (fun _ hk => hk.elim) ?aF ?aO ?aB ?aS ?aL ?_; (case aP => exact rfl); (case aB => exact (by repeat (first | (with_reducible first | exact HB.out | apply below_alloc | apply pw_below_drewN | apply below_drew1 | refine below_set ?_ GE6.out) | exact HB.out))); (case aF => exact (fun _ _ => trivial)); (case aO => exact (by (with_reducible repeat (first | apply Kd.R_alloc | apply Kd.R_drewN | apply Kd.R_drew)); exact Kd.R_mono (Kd.R_far (p := ⟨gb6, 1, none⟩) (Kd.R_far (p := ⟨gb6, 0, none⟩) (Kd.R_types HO_3.out BK6.out (by decide)) (fun _ hk => hk.2) (.int .u32 ((rd_T33 t2 x20_2).f0))) (fun _ hk => hk.2) (.int .u32 ((rd_T33 t2 x20_2).f1))) (fun _ hk => trivial))); (case aS => exact (below_size (by repeat (first | (with_reducible first | exact HB.out | apply below_alloc | apply pw_below_drewN | apply below_drew1 | refine below_set ?_ GE6.out) | exact HB.out)))); (case aL => have := LMc11.out; omega); intro v8 w16 ho hb hg hat; rw [← Ny7.out] at ho; have n0_ := Aside0.mk (Kd.R_over' (by (with_reducible repeat (first | apply Kd.R_alloc | apply Kd.R_drewN | apply Kd.R_drew)); exact (Kd.R_mono (Kd.R_far (p := ⟨gb6, 1, none⟩) (Kd.R_far (p := ⟨gb6, 0, none⟩) (Kd.R_mono HO_18.out (fun k_ hk => (⟨hk, hk.2⟩ : _ ∧ k_ ≠ gb6))) (fun _ hk => hk.2) (.int .u32 ((rd_T33 t2 x20_2).f0))) (fun _ hk => hk.2) (.int .u32 ((rd_T33 t2 x20_2).f1))) (fun _ h_ => h_.1))) (Kd.R_typed (by (with_reducible repeat (first | apply Kd.R_alloc | apply Kd.R_drewN | apply Kd.R_drew)); exact (Kd.R_mono (Kd.R_far (p := ⟨gb6, 1, none⟩) (Kd.R_far (p := ⟨gb6, 0, none⟩) (Kd.R_types HO_3.out BK6.out (by decide)) (fun _ hk => hk.2) (.int .u32 ((rd_T33 t2 x20_2).f0))) (fun _ hk => hk.2) (.int .u32 ((rd_T33 t2 x20_2).f1))) (fun _ h_ => h_.1)))) (by decide) hg); have n1_ := Aside0.mk (blk_grown (g := gb6) (o := .cells #[.int .u32 ((rd_T33 t2 x20_2).f0), .int .u32 ((rd_T33 t2 x20_2).f1)] 33 (0, 0)) (by (with_reducible repeat (first | refine blk_drewN ?_ _ | refine blk_drew ?_ | refine blk_alloc ?_ _)); refine blk_put (cs := #[.int .u32 ((rd_T33 t2 x20_2).f0), .int .u32 0]) ?_ 1 _ rfl; (with_reducible repeat (first | refine blk_drewN ?_ _ | refine blk_drew ?_ | refine blk_alloc ?_ _)); refine blk_put (cs := #[.int .u32 0, .int .u32 0]) ?_ 0 _ rfl; (with_reducible repeat (first | refine blk_drewN ?_ _ | refine blk_drew ?_ | refine blk_alloc ?_ _)); exact BK6.out) hg (Kd.R_ne HO_3.out BK6.out (by decide))); have n2_ := Aside0.mk (hb); have n3_ := Aside0.mk (ho); clear HO_18; clear BK6; clear HB; clear HO_3; have HO_18 := n0_; have BK6 := n1_; have HB := n2_; have HO9 := n3_; clear n0_ n1_ n2_ n3_; clear ho hb hg hat; have hcz17_0 : w16.cell? ⟨gb6, 0, none⟩ = some (.int .u32 ((rd_T33 t2 x20_2).f0)) := (blk_cell BK6.out 0).trans rfl; have hcz17_1 : w16.cell? ⟨gb6, 1, none⟩ = some (.int .u32 ((rd_T33 t2 x20_2).f1)) := (blk_cell BK6.out 1).trans rfl; have hfz17_0 := blk_frozen BK6.out 0; have hfz17_1 := blk_frozen BK6.out 1) | ((with_reducible refine gate_builtin (b := .append) (xs := #[.tmp 32, .tmp 36]) rfl ?_); at_builtin; refine Kd.R_append (Kd.int .u32) (w0 := w) w.heap.size rfl (.tmp 32) (.tmp 36) 37 29 (.int .u32 0) 4 rfl Try.underlying37 info29 rfl (by decide) (by omega) v8 y7 ((((rd_T33 t2 x20_2).f1) + 1) % 4294967296) [.int .u32 ((((rd_T33 t2 x20_2).f1) + 1) % 4294967296)] (fun _ => True) (fun _ => False) rfl rfl ?aP (fun _ hk => hk.elim) ?aF ?aO ?aB ?aS ?aL ?_; (case aP => exact rfl); (case aB => exact (by repeat (first | (with_reducible first | exact HB.out | apply below_alloc | apply pw_below_drewN | apply below_drew1 | refine below_set ?_ GE6.out) | exact HB.out))); (case aF => exact (fun _ _ => trivial)); (case aO => exact (by (with_reducible repeat (first | apply Kd.R_alloc | apply Kd.R_drewN | apply Kd.R_drew)); exact HO9.out)); (case aS => exact (below_size (by repeat (first | (with_reducible first | exact HB.out | apply below_alloc | apply pw_below_drewN | apply below_drew1 | refine below_set ?_ GE6.out) | exact HB.out)))); (case aL => have := LMc13.out; omega); intro v11 w18 ho hb hg hat; rw [← Ny10.out] at ho; have n0_ := Aside0.mk (Kd.R_over' (by (with_reducible repeat (first | apply Kd.R_alloc | apply Kd.R_drewN | apply Kd.R_drew)); exact HO_18.out) (Kd.R_typed (by (with_reducible repeat (first | apply Kd.R_alloc | apply Kd.R_drewN | apply Kd.R_drew)); exact HO9.out)) (by decide) hg); have n1_ := Aside0.mk (blk_grown (g := gb6) (o := .cells #[.int .u32 ((rd_T33 t2 x20_2).f0), .int .u32 ((rd_T33 t2 x20_2).f1)] 33 (0, 0)) (by (with_reducible repeat (first | refine blk_drewN ?_ _ | refine blk_drew ?_ | refine blk_alloc ?_ _)); exact BK6.out) hg (Kd.R_ne HO9.out BK6.out (by decide))); have n2_ := Aside0.mk (hb); have n3_ := Aside0.mk (ho); clear HO_18; clear BK6; clear HB; clear HO9; have HO_18 := n0_; have BK6 := n1_; have HB := n2_; have HO12 := n3_; clear n0_ n1_ n2_ n3_; clear ho hb hg hat))
              go_roundg k2
              case measure => have := HK1.out; have := HK2.out; omega
              case rel => exact ⟨(y10), (wrap64 (x20_2 + 1)), (by first | rfl | (simp; done) | (simp [*]; done)), H', ⟨by have := HK1.out; have := HK2.out; omega⟩, ⟨by (with_reducible repeat (first | apply Kd.R_alloc | apply Kd.R_drewN | apply Kd.R_drew)); exact HO12.out⟩, ⟨by (with_reducible repeat (first | apply Kd.R_alloc | apply Kd.R_drewN | apply Kd.R_drew)); exact Kd.R_mono HO_18.out (fun _ hk => trivial)⟩, ⟨by repeat (first | (with_reducible first | exact HB.out | apply below_alloc | apply pw_below_drewN | apply below_drew1 | refine below_set ?_ GE6.out) | exact HB.out)⟩⟩
             ·
              rw [if_neg c13] at H
              exact absurd H (by simp)
            ·
             rw [if_neg c12] at H
             have c12b0 : decide (((rd_T33 t2 x20_2).f1) < 4294967295) = false := decide_eq_false c12
             clear c12
             have H' := Aside0.mk H
             clear H
             have p5 : 0 ≤ (x20_2 : Int) := of_decide_eq_true (by first | (with_reducible assumption) | assumption)
             have q5 : x20_2 < (t2.length : Int) := of_decide_eq_true (by first | (with_reducible assumption) | assumption)
             obtain ⟨ad5, e5, hx5_0, hx5_1⟩ := at_T33 (Kd.R_reads' HO_18.out).2.2 x20_2 p5 q5
             cases e5
             replace p5 := eq_true p5
             replace q5 := eq_true q5
             go_wp2_with (first | ((with_reducible refine gate_dst (N := 7) rfl ?_); refine box_event ?hg (N := 7) ?hd (cs := #[.int .u32 0, .int .u32 0]) (t := 33) ?hr ?_; (case hd => rfl); (case hg => rfl); (case hr => first | (go_simp; done) | (go_simp; rfl)); intro gb6 hg w19 hbox hb; have n0_ := Aside0.mk (Kd.R_below (by (with_reducible repeat (first | apply Kd.R_alloc | apply Kd.R_drewN | apply Kd.R_drew)); exact HO_3.out) hb); have n1_ := Aside0.mk (Kd.R_below (Kd.R_elderB (by (with_reducible repeat (first | apply Kd.R_alloc | apply Kd.R_drewN | apply Kd.R_drew)); exact HO_18.out) gb6 (Nat.le_of_eq hg.symm)) hb); have n2_ := Aside0.mk (below_step (by repeat (first | (with_reducible first | exact HB.out | apply below_alloc | apply pw_below_drewN | apply below_drew1) | exact HB.out)) hb); have n3_ := Aside0.mk (hbox); have n4_ := Aside0.mk ((by rw [hg]; exact (below_size (by repeat (first | (with_reducible first | exact HB.out | apply below_alloc | apply pw_below_drewN | apply below_drew1) | exact HB.out))) : w.heap.size ≤ gb6)); have n5_ := Aside0.mk ((by rw [hg]; exact (below_size (by repeat (first | (with_reducible first | exact HB.out | apply below_alloc | apply pw_below_drewN | apply below_drew1) | exact HB.out))) : w.heap.size ≤ gb6)); clear HO_3; clear HO_18; clear HB; have HO_3 := n0_; have HO_18 := n1_; have HB := n2_; have BK6 := n3_; have GW6 := n4_; have GE6 := n5_; clear n0_ n1_ n2_ n3_ n4_ n5_; clear hb hbox hg; have hcz20_0 : w19.cell? ⟨gb6, 0, none⟩ = some (.int .u32 0) := (blk_cell BK6.out 0).trans rfl; have hcz20_1 : w19.cell? ⟨gb6, 1, none⟩ = some (.int .u32 0) := (blk_cell BK6.out 1).trans rfl; have hfz20_0 := blk_frozen BK6.out 0; have hfz20_1 := blk_frozen BK6.out 1) | ((with_reducible refine gate_builtin (b := .append) (xs := #[.tmp 24, .tmp 27]) rfl ?_); at_builtin; refine Kd.R_append (Kd.int .u32) (w0 := w) w.heap.size rfl (.tmp 24) (.tmp 27) 37 29 (.int .u32 0) 4 rfl Try.underlying37 info29 rfl (by decide) (by omega) u3 x3_2 ((rd_T33 t2 x20_2).f0) [.int .u32 ((rd_T33 t2 x20_2).f0)] (fun _ => True) (fun _ => False) rfl (by first | (go_simp; done) | (go_simp; rfl)) ?aP (fun _ hk => hk.elim) ?aF ?aO ?aB ?aS ?aL ?_; (case aP => exact rfl); (case aB => exact (by repeat (first | (with_reducible first | exact HB.out | apply below_alloc | apply pw_below_drewN | apply below_drew1 | refine below_set ?_ GE6.out) | exact HB.out))); (case aF => exact (fun _ _ => trivial)); (case aO => exact (by (with_reducible repeat (first | apply Kd.R_alloc | apply Kd.R_drewN | apply Kd.R_drew)); exact Kd.R_mono (Kd.R_far (p := ⟨gb6, 1, none⟩) (Kd.R_far (p := ⟨gb6, 0, none⟩) (Kd.R_types HO_3.out BK6.out (by decide)) (fun _ hk => hk.2) (.int .u32 ((rd_T33 t2 x20_2).f0))) (fun _ hk => hk.2) (.int .u32 ((rd_T33 t2 x20_2).f1))) (fun _ hk => trivial))); (case aS => exact (below_size (by repeat (first | (with_reducible first | exact HB.out | apply below_alloc | apply pw_below_drewN | apply below_drew1 | refine below_set ?_ GE6.out) | exact HB.out)))); (case aL => have := LMc11.out; omega); intro v8 w21 ho hb hg hat; rw [← Ny7.out] at ho; have n0_ := Aside0.mk (Kd.R_over' (by (with_reducible repeat (first | apply Kd.R_alloc | apply Kd.R_drewN | apply Kd.R_drew)); exact (Kd.R_mono (Kd.R_far (p := ⟨gb6, 1, none⟩) (Kd.R_far (p := ⟨gb6, 0, none⟩) (Kd.R_mono HO_18.out (fun k_ hk => (⟨hk, hk.2⟩ : _ ∧ k_ ≠ gb6))) (fun _ hk => hk.2) (.int .u32 ((rd_T33 t2 x20_2).f0))) (fun _ hk => hk.2) (.int .u32 ((rd_T33 t2 x20_2).f1))) (fun _ h_ => h_.1))) (Kd.R_typed (by (with_reducible repeat (first | apply Kd.R_alloc | apply Kd.R_drewN | apply Kd.R_drew)); exact (Kd.R_mono (Kd.R_far (p := ⟨gb6, 1, none⟩) (Kd.R_far (p := ⟨gb6, 0, none⟩) (Kd.R_types HO_3.out BK6.out (by decide)) (fun _ hk => hk.2) (.int .u32 ((rd_T33 t2 x20_2).f0))) (fun _ hk => hk.2) (.int .u32 ((rd_T33 t2 x20_2).f1))) (fun _ h_ => h_.1)))) (by decide) hg); have n1_ := Aside0.mk (blk_grown (g := gb6) (o := .cells #[.int .u32 ((rd_T33 t2 x20_2).f0), .int .u32 ((rd_T33 t2 x20_2).f1)] 33 (0, 0)) (by (with_reducible repeat (first | refine blk_drewN ?_ _ | refine blk_drew ?_ | refine blk_alloc ?_ _)); refine blk_put (cs := #[.int .u32 ((rd_T33 t2 x20_2).f0), .int .u32 0]) ?_ 1 _ rfl; (with_reducible repeat (first | refine blk_drewN ?_ _ | refine blk_drew ?_ | refine blk_alloc ?_ _)); refine blk_put (cs := #[.int .u32 0, .int .u32 0]) ?_ 0 _ rfl; (with_reducible repeat (first | refine blk_drewN ?_ _ | refine blk_drew ?_ | refine blk_alloc ?_ _)); exact BK6.out) hg (Kd.R_ne HO_3.out BK6.out (by decide))); have n2_ := Aside0.mk (hb); have n3_ := Aside0.mk (ho); clear HO_18; clear BK6; clear HB; clear HO_3; have HO_18 := n0_; have BK6 := n1_; have HB := n2_; have HO9 := n3_; clear n0_ n1_ n2_ n3_; clear ho hb hg hat; have hcz22_0 : w21.cell? ⟨gb6, 0, none⟩ = some (.int .u32 ((rd_T33 t2 x20_2).f0)) := (blk_cell BK6.out 0).trans rfl; have hcz22_1 : w21.cell? ⟨gb6, 1, none⟩ = some (.int .u32 ((rd_T33 t2 x20_2).f1)) := (blk_cell BK6.out 1).trans rfl; have hfz22_0 := blk_frozen BK6.out 0; have hfz22_1 := blk_frozen BK6.out 1))
             go_roundg k2
             case measure => have := HK1.out; have := HK2.out; omega
             case rel => exact ⟨(y7), (wrap64 (x20_2 + 1)), (by first | rfl | (simp; done) | (simp [*]; done)), H', ⟨by have := HK1.out; have := HK2.out; omega⟩, ⟨by (with_reducible repeat (first | apply Kd.R_alloc | apply Kd.R_drewN | apply Kd.R_drew)); exact HO9.out⟩, ⟨by (with_reducible repeat (first | apply Kd.R_alloc | apply Kd.R_drewN | apply Kd.R_drew)); exact Kd.R_mono HO_18.out (fun _ hk => trivial)⟩, ⟨by repeat (first | (with_reducible first | exact HB.out | apply below_alloc | apply pw_below_drewN | apply below_drew1 | refine below_set ?_ GE6.out) | exact HB.out)⟩⟩
           ·
            rw [if_neg c11] at H
            exact absurd H (by simp)
          ·
           rw [if_neg c10] at H
           exact absurd H (by simp)
         ·
          rw [if_neg c9] at H
          exact absurd H (by simp)
        ·
         rw [if_neg c8] at H
         have c8b0 : decide (x20_2 < (t2.length : Int)) = false := decide_eq_false c8
         clear c8
         have H' := Aside0.mk H
         clear H
         go_wp2
         go_roundg k2
         case measure => have := HK1.out; have := HK2.out; omega
         case rel => exact ⟨(x3_2), (wrap64 (x13_1 + 1)), (by first | rfl | (simp; done) | (simp [*]; done)), H', ⟨by have := HK1.out; have := HK2.out; omega⟩, ⟨by (with_reducible repeat (first | apply Kd.R_alloc | apply Kd.R_drewN | apply Kd.R_drew)); exact HO_3.out⟩, ⟨by repeat (first | (with_reducible first | exact HB.out | apply below_alloc | apply pw_below_drewN | apply below_drew1) | exact HB.out)⟩⟩
     ·
      rw [if_neg c4] at H
      exact absurd H (by simp)
    ·
     rw [if_neg c3] at H
     exact absurd H (by simp)
   ·
    rw [if_neg c2] at H
    have c2b0 : decide (x13_1 < (l0.length : Int)) = false := decide_eq_false c2
    clear c2
    replace H := Option.bind_eq_some_iff.mp H
    obtain ⟨t13, A230, H⟩ := H
    replace H : ((Compact_u32.f t13).bind fun t14 => (if (t14.length : Int) > 0 then (if 0 < (t14.length : Int) then (q3z.j2 k1 t14 ((rd t14 0) == 0)) else (none)) else (q3z.j2 k1 t14 false))) = some r := H
    have A23 := Aside0.mk A230
    clear A230
    replace H := Option.bind_eq_some_iff.mp H
    obtain ⟨t14, A240, H⟩ := H
    replace H : (if (t14.length : Int) > 0 then (if 0 < (t14.length : Int) then (q3z.j2 k1 t14 ((rd t14 0) == 0)) else (none)) else (q3z.j2 k1 t14 false)) = some r := H
    have A24 := Aside0.mk A240
    clear A240
    have HC25 := Aside0.mk H
    clear H
    obtain ⟨Ao26, co26, eo26⟩ := Kd.R_slice HO_3.out
    subst eo26
    go_upto_region 15 with (first | ((with_reducible refine gate_callee (f := 22) rfl ?_); refine goesL_ (some 41) rfl rfl Try.func22 (by kernel_rfl) rfl #[.slice Ao26 x3_1.length co26] rfl (by (try simp only [List.map_toArray, List.map_cons, List.map_nil]); first | done | rfl | (simp only [List.length_drop, List.length_take]; rfl)) ?_; (with_reducible refine (Sort_u32.calls k1 (fun k_ => some k_ = (.slice Ao26 x3_1.length co26 : Value).ownBlock) (.slice Ao26 x3_1.length co26) x3_1 t13 w _ ?side1 ?side2 A23.out).mono ?_); (case side1 => repeat (first | (with_reducible first | exact HB.out | apply below_alloc | apply pw_below_drewN | apply below_drew1) | exact HB.out)); (case side2 => exact Kd.R_tight rfl HO_3.out); rintro e w27 ⟨rfl, hy0, hb, hkp⟩; refine ⟨_, rfl, ?_⟩; have n0_ := Aside0.mk (Kd.R_reok rfl hy0 (fun k_ e_ => HO_3.out.1 k_ e_)); have n1_ := Aside0.mk (hb); clear HO_3; clear HB; have HO_3 := n0_; have HB := n1_; clear n0_ n1_; (try clear hb); (try clear hkp); (try clear hy0)) | ((with_reducible refine gate_callee (f := 23) rfl ?_); refine goesL_ (some 43) rfl rfl Try.func23 (by kernel_rfl) rfl #[.slice Ao26 x3_1.length co26] rfl (by (try simp only [List.map_toArray, List.map_cons, List.map_nil]); first | done | rfl | (simp only [List.length_drop, List.length_take]; rfl)) ?_; (with_reducible refine (Compact_u32.calls (fun k_ => some k_ = (.slice Ao26 x3_1.length co26 : Value).ownBlock) (.slice Ao26 x3_1.length co26) t13 t14 w _ ?side1 ?side2 A24.out).mono ?_); (case side1 => repeat (first | (with_reducible first | exact HB.out | apply below_alloc | apply pw_below_drewN | apply below_drew1) | exact HB.out)); (case side2 => exact Kd.R_tight rfl HO_3.out); rintro e w28 ⟨v15, rfl, ho0, hb, hkp⟩; refine ⟨_, rfl, ?_⟩; have n0_ := Aside0.mk (Kd.R_mono (ok' := fun k_ => True) ho0 (fun k_ hk_ => trivial)); have n1_ := Aside0.mk (hb); clear HB; clear HO_3; have HO16 := n0_; have HB := n1_; clear n0_ n1_; (try clear hb); (try clear hkp); (try clear ho0)))
    (try simp only [Act.put, List.setIfInBounds_toArray, List.set_cons_zero, List.set_cons_succ])
    go_cut [52] (fun v52 wc => ∃ (kq : Nat) (x52_24 : Bool), v52 = .bool x52_24 ∧ Aside0 (q3z.j2 kq t14 x52_24 = some r) ∧ Aside0 (kq ≤ k1) ∧ Aside0 (Kd.R (Kd.int .u32) 29 wc w.heap.size (fun _ => True) v15 t14) ∧ Aside0 (Below w.heap.size w wc))
    case first =>
     have H := HC25.out
     clear HC25
     by_cases c29 : (t14.length : Int) > 0
     ·
      rw [if_pos c29] at H
      have c29b0 : decide (0 < (t14.length : Int)) = true := decide_eq_true c29
      have c29b1 : decide (0 < t14.length) = true := decide_eq_true (by omega)
      clear c29
      (first | rw [c29b0] | (simp only [i64_w, i32_w, IntKind.wrap_u32]; rw [c29b0]) | skip)
      by_cases c30 : 0 < (t14.length : Int)
      ·
       rw [if_pos c30] at H
       have c30b0 : decide (0 < (t14.length : Int)) = true := decide_eq_true c30
       have c30b1 : decide (0 < t14.length) = true := decide_eq_true (by omega)
       clear c30
       have H' := Aside0.mk H
       clear H
       obtain ⟨Ao31, co31, eo31⟩ := Kd.R_slice HO16.out
       subst eo31
       have p17 : 0 ≤ (0 : Int) := (by omega)
       have q17 : 0 < (t14.length : Int) := of_decide_eq_true (by first | (with_reducible assumption) | assumption)
       obtain ⟨ad17, e17, hx17_0⟩ := Kd.at_int (Kd.R_reads' HO16.out).2.2 0 p17 q17
       cases e17
       have qi17 : (0 < t14.length) = True := eq_true (by omega)
       (try rw [show ((0 : Int)).toNat = 0 from rfl] at hx17_0)
       (try rw [Addr.add_zero'] at hx17_0)
       replace p17 := eq_true p17
       replace q17 := eq_true q17
       go_wp2
       go_meet
       case rel => exact ⟨_, (((rd t14 0) == 0)), (by first | rfl | (simp; done) | (simp [*]; done)), H', ⟨by have := HK1.out; first | omega | exact Nat.le_refl _⟩, ⟨by (with_reducible repeat (first | apply Kd.R_alloc | apply Kd.R_drewN | apply Kd.R_drew)); exact HO16.out⟩, ⟨by repeat (first | (with_reducible first | exact HB.out | apply below_alloc | apply pw_below_drewN | apply below_drew1) | exact HB.out)⟩⟩
      ·
       rw [if_neg c30] at H
       exact absurd H (by simp)
     ·
      rw [if_neg c29] at H
      have c29b0 : decide (0 < (t14.length : Int)) = false := decide_eq_false c29
      have c29b1 : decide (0 < t14.length) = false := decide_eq_false (by omega)
      clear c29
      (first | rw [c29b0] | (simp only [i64_w, i32_w, IntKind.wrap_u32]; rw [c29b0]) | skip)
      have H' := Aside0.mk H
      clear H
      obtain ⟨Ao32, co32, eo32⟩ := Kd.R_slice HO16.out
      subst eo32
      go_wp2
      go_meet
      case rel => exact ⟨_, (false), (by first | rfl | (simp; done) | (simp [*]; done)), H', ⟨by have := HK1.out; first | omega | exact Nat.le_refl _⟩, ⟨by (with_reducible repeat (first | apply Kd.R_alloc | apply Kd.R_drewN | apply Kd.R_drew)); exact HO16.out⟩, ⟨by repeat (first | (with_reducible first | exact HB.out | apply below_alloc | apply pw_below_drewN | apply below_drew1) | exact HB.out)⟩⟩
    case rest =>
     clear HC25
     try clear c1
     try clear p1
     try clear q1
     try clear hx1
     try clear qi1
     try clear c2
     try clear c2b0
     try clear p2
     try clear c3
     try clear c3b0
     try clear c4
     try clear c4b0
     try clear p5
     try clear q5
     try clear hx5
     try clear p6
     try clear c8
     try clear c8b0
     try clear c9
     try clear c9b0
     try clear c10
     try clear c10b0
     try clear c11
     try clear c12
     try clear c12b0
     try clear c13
     try clear c14
     try clear p17
     try clear q17
     try clear hx17
     try clear qi17
     try clear c22
     try clear c23
     try clear c29
     try clear c29b0
     try clear c29b1
     try clear c30
     try clear c30b0
     try clear c30b1
     try clear hcz15_0
     try clear hcz15_1
     try clear hcz17_0
     try clear hcz17_1
     try clear hcz20_0
     try clear hcz20_1
     try clear hcz22_0
     try clear hcz22_1
     try clear hfz15_0
     try clear hfz15_1
     try clear hfz17_0
     try clear hfz17_1
     try clear hfz20_0
     try clear hfz20_1
     try clear hfz22_0
     try clear hfz22_1
     try clear hx17_0
     try clear hx1_0
     try clear hx5_0
     try clear hx5_1
     try clear p1
     try clear p17
     try clear p2
     try clear p5
     try clear q1
     try clear q17
     try clear q5
     obtain ⟨kq, x52_24, rfl, HA, HJ24, HO_3, HB⟩ := hcut
     cases kq with
     | zero => exact absurd HA.out (by simp [q3z.j2])
     | succ kj24 =>
      have H := HA.out
      clear HA
      simp only [q3z.j2] at H
      have HC33 := Aside0.mk H
      clear H
      go_upto_if 52 with (fail)
      go_cut [3] (fun v3 wc => ∃ (kq : Nat) (x3_32 : List Int), Aside0 (q3z.j3 kq x3_32 = some r) ∧ Aside0 (kq ≤ kj24) ∧ Aside0 (Kd.Q (Kd.int .u32) 29 wc w.heap.size (fun _ => True) v3 x3_32) ∧ Aside0 (Below w.heap.size w wc))
      case first =>
       have H := HC33.out
       clear HC33
       by_cases c34 : x52_24 = true
       ·
        subst c34
        have H1 : (if 1 ≤ (t14.length : Int) then (q3z.j3 kj24 (t14.drop (1 : Int).toNat)) else (none)) = some r := by rw [if_pos rfl] at H; exact H
        clear H
        have H := H1
        clear H1
        by_cases c35 : 1 ≤ (t14.length : Int)
        ·
         rw [if_pos c35] at H
         have c35b0 := eq_true c35
         have c35b1 : decide (1 ≤ (t14.length : Int)) = true := decide_eq_true c35
         clear c35
         obtain ⟨y18, hy18⟩ : ∃ y_ : List Int, y_ = (t14.drop (1 : Int).toNat) := ⟨_, rfl⟩
         replace H : (q3z.j3 kj24 y18) = some r := by first | (rw [hy18]; with_reducible exact H) | (have H2_ := (Option.bind_some _ _).symm.trans H; rw [hy18]; with_reducible exact H2_) | (have H2_ := (Option.bind_some _ _).symm.trans H; with_reducible exact H2_) | with_reducible exact H | (rw [hy18]; exact H) | exact H
         have Ny18 := Aside0.mk hy18
         clear hy18
         have H' := Aside0.mk H
         clear H
         obtain ⟨Ao36, co36, eo36⟩ := Kd.R_slice HO_3.out
         subst eo36
         have q37 : (1 : Int) ≤ ((t14.length : Int) : Int) := of_decide_eq_true (by first | (with_reducible assumption) | assumption)
         obtain ⟨i037, hi037, _, hsz37, _⟩ := info_parts info29
         have hcut37 := cut_from (P := Try.prog) 37 29 .i64 Try.underlying37 hi037 1 hsz37 Ao36 t14.length co36 1 (by omega) q37
         have hr37 := Kd.Q_drop (k := (1 : Int).toNat) (Kd.Q_of_R HO_3.out) (by omega)
         obtain ⟨A37, hA37⟩ : ∃ A1, A1 = (if co36 = (1 : Int).toNat then Ao36 else (Ao36 : Option Addr).map (·.add ((1 : Int).toNat * 1))) := ⟨_, rfl⟩
         obtain ⟨c37, hc37⟩ : ∃ c1, c1 = co36 - (1 : Int).toNat := ⟨_, rfl⟩
         have hy37 : y18.length = t14.length - (1 : Int).toNat := (by rw [Ny18.out, List.length_drop])
         rw [← Ny18.out] at hr37
         rw [← hy37, ← hA37, ← hc37] at hcut37
         replace hr37 : Kd.Q (Kd.int .u32) 29 wc w.heap.size (fun _ => True) (.slice A37 y18.length c37) y18 := (by rw [hA37, hc37, hy37]; exact hr37)
         have HE37 : Aside0 ((Value.slice A37 y18.length c37).ownBlock = (.slice Ao36 t14.length co36 : Value).ownBlock) := ⟨by rw [hA37]; split <;> (cases (Ao36 : Option Addr) <;> rfl)⟩
         clear hy37 hi037 hsz37 HO_3 hA37 hc37
         have HO20 := Aside0.mk hr37
         clear hr37
         replace q37 := eq_true q37
         go_wp2
         go_meet
         case rel => exact ⟨_, (y18), H', ⟨by have := HK1.out; have := HJ24.out; first | omega | exact Nat.le_refl _⟩, ⟨by (with_reducible repeat (first | apply Kd.Q_alloc | apply Kd.Q_drewN | apply Kd.Q_drew)); exact HO20.out⟩, ⟨by repeat (first | (with_reducible first | exact HB.out | apply below_alloc | apply pw_below_drewN | apply below_drew1) | exact HB.out)⟩⟩
        ·
         rw [if_neg c35] at H
         exact absurd H (by simp)
       ·
        replace c34 := Bool.eq_false_iff.mpr c34
        subst c34
        have H1 : (q3z.j3 kj24 t14) = some r := by rw [if_neg (show ¬ (false = true) by decide)] at H; exact H
        clear H
        have H := H1
        clear H1
        have H' := Aside0.mk H
        clear H
        go_wp2
        go_meet
        case rel => exact ⟨_, (t14), H', ⟨by have := HK1.out; have := HJ24.out; first | omega | exact Nat.le_refl _⟩, ⟨Kd.Q_of_R (by (with_reducible repeat (first | apply Kd.R_alloc | apply Kd.R_drewN | apply Kd.R_drew)); exact HO_3.out)⟩, ⟨by repeat (first | (with_reducible first | exact HB.out | apply below_alloc | apply pw_below_drewN | apply below_drew1) | exact HB.out)⟩⟩
      case rest =>
       clear HC33
       try clear c1
       try clear p1
       try clear q1
       try clear hx1
       try clear qi1
       try clear c2
       try clear c2b0
       try clear p2
       try clear c3
       try clear c3b0
       try clear q3
       try clear c4
       try clear c4b0
       try clear p5
       try clear q5
       try clear hx5
       try clear p6
       try clear c8
       try clear c8b0
       try clear c9
       try clear c9b0
       try clear c10
       try clear c10b0
       try clear c11
       try clear c12
       try clear c12b0
       try clear c13
       try clear c14
       try clear p17
       try clear q17
       try clear hx17
       try clear qi17
       try clear c22
       try clear c23
       try clear c29
       try clear c29b0
       try clear c29b1
       try clear c30
       try clear c30b0
       try clear c30b1
       try clear c34
       try clear c35
       try clear c35b0
       try clear c35b1
       try clear c37
       try clear q37
       try clear hcz15_0
       try clear hcz15_1
       try clear hcz17_0
       try clear hcz17_1
       try clear hcz20_0
       try clear hcz20_1
       try clear hcz22_0
       try clear hcz22_1
       try clear hfz15_0
       try clear hfz15_1
       try clear hfz17_0
       try clear hfz17_1
       try clear hfz20_0
       try clear hfz20_1
       try clear hfz22_0
       try clear hfz22_1
       try clear hx17_0
       try clear hx1_0
       try clear hx5_0
       try clear hx5_1
       try clear p1
       try clear p17
       try clear p2
       try clear p5
       try clear p6
       try clear q1
       try clear q17
       try clear q37
       try clear q5
       obtain ⟨kq, x3_32, HA, HJ32, HO_3, HB⟩ := hcut
       cases kq with
       | zero => exact absurd HA.out (by simp [q3z.j3])
       | succ kj32 =>
        have H := HA.out
        clear HA
        simp only [q3z.j3] at H
        obtain ⟨y21, hy21⟩ : ∃ y_ : List (S33), y_ = (([(⟨0, 4294967295⟩ : S33)] : List (S33))) := ⟨_, rfl⟩
        replace H : (q3z.l2 kj32 y21 x3_32 (x3_32.length : Int) 0) = some r := by first | (rw [hy21]; with_reducible exact H) | (have H2_ := (Option.bind_some _ _).symm.trans H; rw [hy21]; with_reducible exact H2_) | (have H2_ := (Option.bind_some _ _).symm.trans H; with_reducible exact H2_) | with_reducible exact H | (rw [hy21]; exact H) | exact H
        have Ny21 := Aside0.mk hy21
        clear hy21
        have H' := Aside0.mk H
        clear H
        go_wp2_with (first | ((with_reducible refine gate_dst (N := 56) rfl ?_); refine Kd.R_lit k33 _ 33 ?hg (N := 56) ?hd (xs := ([(⟨0, 4294967295⟩ : S33)] : List (S33))) (inner := [.int .u32 0, .int .u32 4294967295]) (ok := fun _ => True) (okp := fun _ => True) ?hr ?hp (fun _ hk => hk) trivial (Below.refl _ _) (Nat.le_refl _) (by simp) ?_; (case hd => rfl); (case hg => rfl); (case hr => first | (go_simp; done) | (go_simp; rfl)); (case hp => exact (Reps.c2 (show Kd.M k33 _ _ _ (⟨0, 4294967295⟩ : S33) [.int .u32 0, .int .u32 4294967295] from (k33_mkM _ _ _ (⟨0, 4294967295⟩ : S33) )) (Reps.none _ _))); intro v22 w38 ho39 hb hg_ hnew_; clear hg_ hnew_; (first | rw [← Ny21.out] at ho39 | (simp only [Int.reduceToNat] at ho39; rw [← Ny21.out] at ho39)); have n0_ := Aside0.mk (Kd.Q_below (by (with_reducible repeat (first | apply Kd.Q_alloc | apply Kd.Q_drewN | apply Kd.Q_drew)); exact HO_3.out) hb); have n1_ := Aside0.mk (Kd.R_lower ho39 (below_size (by repeat (first | (with_reducible first | exact HB.out | apply below_alloc | apply pw_below_drewN | apply below_drew1) | exact HB.out)))); have n2_ := Aside0.mk (below_step (by repeat (first | (with_reducible first | exact HB.out | apply below_alloc | apply pw_below_drewN | apply below_drew1) | exact HB.out)) hb); clear HO_3; clear HB; have HO_3 := n0_; have HO23 := n1_; have HB := n2_; clear n0_ n1_ n2_; clear hb ho39; obtain ⟨Ao40, co40, eo40, _⟩ := Kd.Q_slice HO_3.out; subst eo40))
        go_loopg [8, 59] kj32 (fun kq v8 v59 w' => ∃ (x8_4 : List (S33)) (x59_4 : Int), v59 = .int .i64 x59_4 ∧ Aside0 (q3z.l2 kq x8_4 x3_32 (x3_32.length : Int) x59_4 = some r) ∧ Aside0 (kq ≤ kj32) ∧ Aside0 (Kd.R k33 33 w' w.heap.size (fun _ => True) v8 x8_4) ∧ Aside0 (Kd.Q (Kd.int .u32) 29 w' w.heap.size (fun _ => True) (.slice Ao40 x3_32.length co40) x3_32) ∧ Aside0 (Below w.heap.size w w'))
        case atStart => exact ⟨(y21), (0), (by first | rfl | (simp; done) | (simp [*]; done)), H', ⟨Nat.le_refl _⟩, ⟨by (with_reducible repeat (first | apply Kd.R_alloc | apply Kd.R_drewN | apply Kd.R_drew)); exact HO23.out⟩, ⟨by (with_reducible repeat (first | apply Kd.Q_alloc | apply Kd.Q_drewN | apply Kd.Q_drew)); exact HO_3.out⟩, ⟨by repeat (first | (with_reducible first | exact HB.out | apply below_alloc | apply pw_below_drewN | apply below_drew1) | exact HB.out)⟩⟩
        case round =>
         clear H'
         try clear c1
         try clear p1
         try clear q1
         try clear hx1
         try clear qi1
         try clear c2
         try clear c2b0
         try clear p2
         try clear c3
         try clear c3b0
         try clear q3
         try clear c4
         try clear c4b0
         try clear p5
         try clear q5
         try clear hx5
         try clear p6
         try clear c8
         try clear c8b0
         try clear c9
         try clear c9b0
         try clear c10
         try clear c10b0
         try clear c11
         try clear c12
         try clear c12b0
         try clear c13
         try clear c14
         try clear p17
         try clear q17
         try clear hx17
         try clear qi17
         try clear c22
         try clear c23
         try clear c29
         try clear c29b0
         try clear c29b1
         try clear c30
         try clear c30b0
         try clear c30b1
         try clear c34
         try clear c35
         try clear c35b0
         try clear c35b1
         try clear c37
         try clear q37
         try clear hcz15_0
         try clear hcz15_1
         try clear hcz17_0
         try clear hcz17_1
         try clear hcz20_0
         try clear hcz20_1
         try clear hcz22_0
         try clear hcz22_1
         try clear hfz15_0
         try clear hfz15_1
         try clear hfz17_0
         try clear hfz17_1
         try clear hfz20_0
         try clear hfz20_1
         try clear hfz22_0
         try clear hfz22_1
         try clear hx17_0
         try clear hx1_0
         try clear hx5_0
         try clear hx5_1
         try clear p1
         try clear p17
         try clear p2
         try clear p5
         try clear p6
         try clear q1
         try clear q17
         try clear q3
         try clear q37
         try clear q5
         obtain ⟨x8_4, x59_4, rfl, HA, HK4, HO_8, HO_57, HB⟩ := hrel
         cases gk with
         | zero => exact absurd HA.out (by simp [q3z.l2])
         | succ k4 =>
          have H := HA.out
          clear HA
          simp only [q3z.l2] at H
          by_cases c41 : x59_4 < (x3_32.length : Int)
          ·
           rw [if_pos c41] at H
           have c41b0 : decide (x59_4 < (x3_32.length : Int)) = true := decide_eq_true c41
           clear c41
           by_cases c42 : 0 ≤ x59_4
           ·
            rw [if_pos c42] at H
            have c42b0 : decide (0 ≤ x59_4) = true := decide_eq_true c42
            clear c42
            by_cases c43 : x59_4 < (x3_32.length : Int)
            ·
             rw [if_pos c43] at H
             have c43b0 : decide (x59_4 < (x3_32.length : Int)) = true := decide_eq_true c43
             clear c43
             obtain ⟨ji44, hji44⟩ : ∃ j_ : Int, (wrap64 ((x8_4.length : Int) - 1)) = j_ := ⟨_, rfl⟩
             replace H : (if 0 ≤ (ji44) then (if (ji44) < (x8_4.length : Int) then ((some (x8_4.set ((ji44) : Int).toNat (⟨(rd_T33 x8_4 (ji44)).f0, ((rd x3_32 x59_4) - 1) % 4294967296⟩ : S33) : List (S33))).bind fun y25 => (if y25.length < 17592186044416 then (q3z.l2 k4 (y25 ++ [(⟨rd x3_32 x59_4, 4294967295⟩ : S33)]) x3_32 (x3_32.length : Int) (wrap64 (x59_4 + 1))) else (none))) else (none)) else (none)) = some r := by first | (rw [hji44] at H; exact H) | (simp only [hji44] at H ⊢; exact H)
             have hji44w : (IntKind.i64.wrap ((x8_4.length : Int) - 1)) = ji44 := (i64_w _).trans hji44
             by_cases c45 : 0 ≤ (ji44)
             ·
              rw [if_pos c45] at H
              have c45b0 : decide (0 ≤ (ji44)) = true := decide_eq_true c45
              clear c45
              by_cases c46 : (ji44) < (x8_4.length : Int)
              ·
               rw [if_pos c46] at H
               have c46b0 : decide ((ji44) < (x8_4.length : Int)) = true := decide_eq_true c46
               clear c46
               obtain ⟨y25, hy25⟩ : ∃ y_ : List (S33), y_ = (x8_4.set ((ji44) : Int).toNat (⟨(rd_T33 x8_4 (ji44)).f0, ((rd x3_32 x59_4) - 1) % 4294967296⟩ : S33)) := ⟨_, rfl⟩
               replace H : (if y25.length < 17592186044416 then (q3z.l2 k4 (y25 ++ [(⟨rd x3_32 x59_4, 4294967295⟩ : S33)]) x3_32 (x3_32.length : Int) (wrap64 (x59_4 + 1))) else (none)) = some r := by first | (rw [hy25]; with_reducible exact H) | (have H2_ := (Option.bind_some _ _).symm.trans H; rw [hy25]; with_reducible exact H2_) | (have H2_ := (Option.bind_some _ _).symm.trans H; with_reducible exact H2_) | with_reducible exact H | (rw [hy25]; exact H) | exact H
               have Ny25 := Aside0.mk hy25
               clear hy25
               by_cases c48 : y25.length < 17592186044416
               ·
                rw [if_pos c48] at H
                have LMc48 := Aside0.mk c48
                clear c48
                obtain ⟨y26, hy26⟩ : ∃ y_ : List (S33), y_ = (y25 ++ [(⟨rd x3_32 x59_4, 4294967295⟩ : S33)]) := ⟨_, rfl⟩
                replace H : (q3z.l2 k4 y26 x3_32 (x3_32.length : Int) (wrap64 (x59_4 + 1))) = some r := by first | (rw [hy26]; with_reducible exact H) | (have H2_ := (Option.bind_some _ _).symm.trans H; rw [hy26]; with_reducible exact H2_) | (have H2_ := (Option.bind_some _ _).symm.trans H; with_reducible exact H2_) | with_reducible exact H | (rw [hy26]; exact H) | exact H
                have Ny26 := Aside0.mk hy26
                clear hy26
                have H' := Aside0.mk H
                clear H
                have p24 : 0 ≤ (x59_4 : Int) := of_decide_eq_true (by first | (with_reducible assumption) | assumption)
                have q24 : x59_4 < (x3_32.length : Int) := of_decide_eq_true (by first | (with_reducible assumption) | assumption)
                obtain ⟨ad24, e24, hx24_0⟩ := Kd.at_int (Kd.Q_reads' HO_57.out).2.2 x59_4 p24 q24
                cases e24
                replace p24 := eq_true p24
                replace q24 := eq_true q24
                obtain ⟨Ao49, co49, eo49⟩ := Kd.R_slice HO_8.out
                subst eo49
                have p47 : 0 ≤ ((ji44) : Int) := of_decide_eq_true (by first | (with_reducible assumption) | assumption)
                have q47 : ((ji44) : Int) < ((x8_4.length : Int) : Int) := of_decide_eq_true (by first | (with_reducible assumption) | assumption)
                obtain ⟨go47, co47, eo47, gb47, gl47, cl47, HG47⟩ := Kd.R_form HO_8.out (by omega)
                (first | cases eo47 | (injection eo47 with ea_ en_ ec_; (first | subst ea_ | (injection ea_ with ea_; subst ea_)); subst ec_; clear en_))
                have GB47 := Aside0.mk gb47
                have GG47 := Aside0.mk HG47
                clear gb47 gl47 HG47
                obtain ⟨ce47, hcl47, hM47, hcc47, hfr47⟩ := Kd.R_elem HO_8.out z33 ((ji44) : Int) p47 q47
                obtain rfl := k33_openM hM47
                have hx47_0 : wr.cell? ⟨go47, ((ji44) : Int).toNat * 2, none⟩ = some (.int .u32 ((rd_T33 x8_4 (ji44)).f0)) := hcc47 0 _ rfl
                have hx47_1 : wr.cell? ⟨go47, ((ji44) : Int).toNat * 2 + 1, none⟩ = some (.int .u32 ((rd_T33 x8_4 (ji44)).f1)) := hcc47 1 _ rfl
                have hf47_0 : wr.frozen? ⟨go47, ((ji44) : Int).toNat * 2, none⟩ = false := hfr47 0
                have hf47_1 : wr.frozen? ⟨go47, ((ji44) : Int).toNat * 2 + 1, none⟩ = false := hfr47 1
                clear hcl47 hcc47 hfr47 hM47
                replace p47 := eq_true p47
                replace q47 := eq_true q47
                have HX50 := Aside0.mk (show Kd.R k33 33 wr w.heap.size (fun _ => True) (.slice (some ⟨go47, 0, none⟩) x8_4.length co49) x8_4 from (by (with_reducible repeat (first | apply Kd.R_alloc | apply Kd.R_drewN | apply Kd.R_drew)); exact HO_8.out))
                obtain ⟨ce50, hcl50, hM50, hcc50, hfr50⟩ := Kd.R_elem HX50.out z33 ((ji44) : Int) (of_decide_eq_true (by first | (with_reducible assumption) | assumption)) (by have h_ : ((ji44) : Int) < ((x8_4.length : Int) : Int) := of_decide_eq_true (by first | (with_reducible assumption) | assumption); first | exact h_ | (have e_ := (Kd.R_reads' HO_8.out).1; omega) | simpa using h_)
                obtain rfl := k33_openM hM50
                have HP50 := Kd.R_seg HX50.out ((ji44) : Int) (of_decide_eq_true (by first | (with_reducible assumption) | assumption)) (by have h_ : ((ji44) : Int) < ((x8_4.length : Int) : Int) := of_decide_eq_true (by first | (with_reducible assumption) | assumption); first | exact h_ | (have e_ := (Kd.R_reads' HO_8.out).1; omega) | simpa using h_) (seg := [.int .u32 (((rd x3_32 x59_4) - 1) % 4294967296)]) (j := 1) hcl50 hcc50 (show 2 ≤ 2 from by decide) (x' := (⟨(rd_T33 x8_4 (ji44)).f0, ((rd x3_32 x59_4) - 1) % 4294967296⟩ : S33)) (k33_mkM _ _ _ (⟨(rd_T33 x8_4 (ji44)).f0, ((rd x3_32 x59_4) - 1) % 4294967296⟩ : S33) ) (fun _ hk => hk)
                have hx50_1 := hcc50 1 _ rfl
                (try simp only [show (k33).sz = 2 from rfl, Nat.mul_one, Nat.add_zero] at hx50_1)
                have hf50_1 := hfr50 1
                (try simp only [show (k33).sz = 2 from rfl, Nat.mul_one, Nat.add_zero] at hf50_1)
                clear hcl50 hcc50 hfr50 hM50
                go_wp2_with (first | ((with_reducible refine gate_store (t := 29) (p := 70) rfl ?_); refine store_event (t := 29) (p := 70) (v := ?vo_w51) (w1 := (wr.setCell ⟨go47, ((ji44) : Int).toNat * 2 + 1, none⟩ (.int .u32 (((rd x3_32 x59_4) - 1) % 4294967296)))) ?hg ?ho ?hn ?hr ?_; (case ho => rfl); (case hg => rfl); (case hn => rfl); (case hr => first | (go_simp; done) | (go_simp; rfl)); intro w51 hw; have hg : wr.grownBy w51 (some go47) := (by rw [hw]; exact HP50.2); have hp_ : Kd.R k33 33 w51 w.heap.size (fun _ => True) (.slice (some ⟨go47, 0, none⟩) x8_4.length co49) y25 := (by rw [hw, Ny25.out]; exact HP50.1); clear HP50; have n0_ := Aside0.mk (hp_); have n1_ := Aside0.mk (Kd.Q_over' (v := (.slice (some ⟨go47, 0, none⟩) x8_4.length co49)) (by (with_reducible repeat (first | apply Kd.Q_alloc | apply Kd.Q_drewN | apply Kd.Q_drew)); exact HO_57.out) (Kd.R_typed HO_8.out) (by decide) hg); have n2_ := Aside0.mk ((by rw [hw]; exact below_set (HB.out) GB47.out : Below w.heap.size w w51)); clear HO_8; clear HO_57; clear HB; have HO_8 := n0_; have HO_57 := n1_; have HB := n2_; clear n0_ n1_ n2_; clear hg hw hp_) | ((with_reducible refine gate_builtin (b := .append) (xs := #[.tmp 71, .tmp 74]) rfl ?_); at_builtin; refine Kd.R_append k33 (w0 := w) w.heap.size rfl (.tmp 71) (.tmp 74) 24 33 (.agg #[(.int .u32 0), (.int .u32 0)]) 8 rfl Try.underlying24 info33 rfl (by decide) (by omega) (.slice (some ⟨go47, 0, none⟩) x8_4.length co49) y25 (⟨rd x3_32 x59_4, 4294967295⟩ : S33) [.int .u32 (rd x3_32 x59_4), .int .u32 4294967295] (fun _ => True) (fun _ => False) rfl rfl ?aP (fun _ hk => hk.elim) ?aF ?aO ?aB ?aS ?aL ?_; (case aP => exact k33_mkM _ _ _ (⟨rd x3_32 x59_4, 4294967295⟩ : S33)); (case aB => exact (by repeat (first | (with_reducible first | exact HB.out | apply below_alloc | apply pw_below_drewN | apply below_drew1) | exact HB.out))); (case aF => exact (fun _ _ => trivial)); (case aO => exact (by (with_reducible repeat (first | apply Kd.R_alloc | apply Kd.R_drewN | apply Kd.R_drew)); exact HO_8.out)); (case aS => exact (below_size (by repeat (first | (with_reducible first | exact HB.out | apply below_alloc | apply pw_below_drewN | apply below_drew1) | exact HB.out)))); (case aL => have := LMc48.out; omega); intro v27 w52 ho hb hg hat; rw [← Ny26.out] at ho; have n0_ := Aside0.mk (Kd.Q_over' (by (with_reducible repeat (first | apply Kd.Q_alloc | apply Kd.Q_drewN | apply Kd.Q_drew)); exact HO_57.out) (Kd.R_typed (by (with_reducible repeat (first | apply Kd.R_alloc | apply Kd.R_drewN | apply Kd.R_drew)); exact HO_8.out)) (by decide) hg); have n1_ := Aside0.mk (hb); have n2_ := Aside0.mk (ho); clear HO_57; clear HB; clear HO_8; have HO_57 := n0_; have HB := n1_; have HO28 := n2_; clear n0_ n1_ n2_; clear ho hb hg hat))
                go_roundg k4
                case measure => have := HK1.out; have := HJ24.out; have := HJ32.out; have := HK4.out; omega
                case rel => exact ⟨(y26), (wrap64 (x59_4 + 1)), (by first | rfl | (simp; done) | (simp [*]; done)), H', ⟨by have := HK1.out; have := HJ24.out; have := HJ32.out; have := HK4.out; omega⟩, ⟨by (with_reducible repeat (first | apply Kd.R_alloc | apply Kd.R_drewN | apply Kd.R_drew)); exact HO28.out⟩, ⟨by (with_reducible repeat (first | apply Kd.Q_alloc | apply Kd.Q_drewN | apply Kd.Q_drew)); exact HO_57.out⟩, ⟨by repeat (first | (with_reducible first | exact HB.out | apply below_alloc | apply pw_below_drewN | apply below_drew1) | exact HB.out)⟩⟩
               ·
                rw [if_neg c48] at H
                exact absurd H (by simp)
              ·
               rw [if_neg c46] at H
               exact absurd H (by simp)
             ·
              rw [if_neg c45] at H
              exact absurd H (by simp)
            ·
             rw [if_neg c43] at H
             exact absurd H (by simp)
           ·
            rw [if_neg c42] at H
            exact absurd H (by simp)
          ·
           rw [if_neg c41] at H
           have c41b0 : decide (x59_4 < (x3_32.length : Int)) = false := decide_eq_false c41
           clear c41
           obtain rfl := Option.some.inj H
           go_wp2
           go_ret
           exact ⟨_, by first | rfl | (simp [errW_none, errW_some] <;> rfl) | (simp [*, errW_none, errW_some] <;> rfl), by (with_reducible repeat (first | apply Kd.R_alloc | apply Kd.R_drewN | apply Kd.R_drew)); exact HO_8.out, by repeat (first | (with_reducible first | exact HB.out | apply below_alloc | apply pw_below_drewN | apply below_drew1) | exact HB.out)⟩

end Go.Proofs.Ytconaifcjnpabaa.P

namespace Go.Proofs.Ytconaifcjnpabaa.P
open Go.RowKit Go.Proofs.YtconaifcjnpabaaW.PrintWords Go.Proofs.YtconaifcjnpabaaW.PrintLast Go.Proofs.YtconaifcjnpabaaW.PrintMore
attribute [local go_sem] max2_int min2_int max_two min_two max_three min_three max_four min_four
set_option linter.unusedVariables false
set_option linter.unusedSimpArgs false

/-! ### span_Meet: function 18 -/
mutual
def q4z.l0 : Nat → List (S33) → List (S33) → List (S33) → Option ((List (S33)))
 | 0, _, _, _ => none
 | k + 1, x0, x1, x5 => if (x0.length : Int) > 0 then (q4z.j1 k x0 x1 x5 (decide ((x1.length : Int) > 0))) else (q4z.j1 k x0 x1 x5 false)
def q4z.j1 : Nat → List (S33) → List (S33) → List (S33) → Bool → Option ((List (S33)))
 | 0, _, _, _, _ => none
 | k + 1, x0, x1, x5, x19 => if x19 = true then (if 0 < (x0.length : Int) then (if 0 < (x1.length : Int) then (if (mx ((rd_T33 x0 0).f0) ((rd_T33 x1 0).f0)) ≤ (mn ((rd_T33 x0 0).f1) ((rd_T33 x1 0).f1)) then (if x5.length < 17592186044416 then (q4z.j2 k x0 x1 (x5 ++ [(⟨mx ((rd_T33 x0 0).f0) ((rd_T33 x1 0).f0), mn ((rd_T33 x0 0).f1) ((rd_T33 x1 0).f1)⟩ : S33)]) (mn ((rd_T33 x0 0).f1) ((rd_T33 x1 0).f1))) else (none)) else (q4z.j2 k x0 x1 x5 (mn ((rd_T33 x0 0).f1) ((rd_T33 x1 0).f1)))) else (none)) else (none)) else (some x5)
def q4z.j2 : Nat → List (S33) → List (S33) → List (S33) → Int → Option ((List (S33)))
 | 0, _, _, _, _ => none
 | k + 1, x0, x1, x5, x7 => if x7 = 4294967295 then (some x5) else (if 0 < (x0.length : Int) then (if ((rd_T33 x0 0).f1) = x7 then (if 1 ≤ (x0.length : Int) then (q4z.l0 k (x0.drop (1 : Int).toNat) x1 x5) else (none)) else (if 1 ≤ (x1.length : Int) then (q4z.l0 k x0 (x1.drop (1 : Int).toNat) x5) else (none))) else (none))
end
def q4z.f (k : Nat) (l0 : List (S33)) (l1 : List (S33)) : Option ((List (S33))) := (q2z.f k l0).bind fun t1 => ((q2z.f k l1).bind fun t4 => (q4z.l0 k t1 t4 ([] : List (S33))))
theorem q4z.mono_l : ∀ k, (∀ y0 y1 y2, LeO (q4z.l0 k y0 y1 y2) (q4z.l0 (k + 1) y0 y1 y2)) ∧ (∀ y0 y1 y2 y3, LeO (q4z.j1 k y0 y1 y2 y3) (q4z.j1 (k + 1) y0 y1 y2 y3)) ∧ (∀ y0 y1 y2 y3, LeO (q4z.j2 k y0 y1 y2 y3) (q4z.j2 (k + 1) y0 y1 y2 y3))
 | 0 => ⟨fun _ _ _ r h => by simp [q4z.l0] at h, fun _ _ _ _ r h => by simp [q4z.j1] at h, fun _ _ _ _ r h => by simp [q4z.j2] at h⟩
 | k + 1 => by
  obtain ⟨ih0, ih1, ih2⟩ := q4z.mono_l k
  refine ⟨?_, ?_, ?_⟩
  ·
   intro y0 y1 y2
   unfold q4z.l0
   repeat' first
   | (with_reducible exact ih0 _ _ _)
   | (with_reducible exact ih1 _ _ _ _)
   | (with_reducible exact ih2 _ _ _ _)
   | (with_reducible exact q2z.mono _ _)
   | (with_reducible exact LeO.refl _)
   | (with_reducible exact LeO.none _)
   | (with_reducible refine LeO.ite ?_ ?_)
   | (with_reducible refine LeO.bind ?_ (fun _ => ?_))
   | exact ih0 _ _ _
   | exact ih1 _ _ _ _
   | exact ih2 _ _ _ _
   | exact q2z.mono _ _
   | exact LeO.none _
   | refine LeO.ite ?_ ?_
   | refine LeO.bind ?_ (fun _ => ?_)
  ·
   intro y0 y1 y2 y3
   unfold q4z.j1
   repeat' first
   | (with_reducible exact ih0 _ _ _)
   | (with_reducible exact ih1 _ _ _ _)
   | (with_reducible exact ih2 _ _ _ _)
   | (with_reducible exact q2z.mono _ _)
   | (with_reducible exact LeO.refl _)
   | (with_reducible exact LeO.none _)
   | (with_reducible refine LeO.ite ?_ ?_)
   | (with_reducible refine LeO.bind ?_ (fun _ => ?_))
   | exact ih0 _ _ _
   | exact ih1 _ _ _ _
   | exact ih2 _ _ _ _
   | exact q2z.mono _ _
   | exact LeO.none _
   | refine LeO.ite ?_ ?_
   | refine LeO.bind ?_ (fun _ => ?_)
  ·
   intro y0 y1 y2 y3
   unfold q4z.j2
   repeat' first
   | (with_reducible exact ih0 _ _ _)
   | (with_reducible exact ih1 _ _ _ _)
   | (with_reducible exact ih2 _ _ _ _)
   | (with_reducible exact q2z.mono _ _)
   | (with_reducible exact LeO.refl _)
   | (with_reducible exact LeO.none _)
   | (with_reducible refine LeO.ite ?_ ?_)
   | (with_reducible refine LeO.bind ?_ (fun _ => ?_))
   | exact ih0 _ _ _
   | exact ih1 _ _ _ _
   | exact ih2 _ _ _ _
   | exact q2z.mono _ _
   | exact LeO.none _
   | refine LeO.ite ?_ ?_
   | refine LeO.bind ?_ (fun _ => ?_)
theorem q4z.mono : ∀ a0 a1 k, LeO (q4z.f k a0 a1) (q4z.f (k + 1) a0 a1) := by
 intro a0 a1 k
 obtain ⟨ih0, ih1, ih2⟩ := q4z.mono_l k
 unfold q4z.f
 repeat' first
   | (with_reducible exact ih0 _ _ _)
   | (with_reducible exact ih1 _ _ _ _)
   | (with_reducible exact ih2 _ _ _ _)
   | (with_reducible exact q2z.mono _ _)
   | (with_reducible exact LeO.refl _)
   | (with_reducible exact LeO.none _)
   | (with_reducible refine LeO.ite ?_ ?_)
   | (with_reducible refine LeO.bind ?_ (fun _ => ?_))
   | exact ih0 _ _ _
   | exact ih1 _ _ _ _
   | exact ih2 _ _ _ _
   | exact q2z.mono _ _
   | exact LeO.none _
   | refine LeO.ite ?_ ?_
   | refine LeO.bind ?_ (fun _ => ?_)
set_option maxHeartbeats 8000000 in
set_option maxRecDepth 100000 in
theorem q4z.calls (k : Nat) (A0 : Option Addr) (c0 : Nat) (l0 : List (S33)) (A1 : Option Addr) (c1 : Nat) (l1 : List (S33)) (r : List (S33)) (w : World) (hr0 : Kd.C k33 w A0 l0.length l0) (hc0 : l0.length ≤ c0) (hr1 : Kd.C k33 w A1 l1.length l1) (hc1 : l1.length ≤ c1) (h : q4z.f k l0 l1 = some r) :
  Calls Try.prog 18 #[.slice A0 l0.length c0, .slice A1 l1.length c1] w fun e w' => ∃ v0_ : Value, e = .returned (v0_) ∧ Kd.R k33 33 w' w.heap.size (fun _ => True) v0_ r ∧ Below w.heap.size w w' := by
 have hu33 := Try.underlying33
 have HR0 := Aside0.mk hr0
 have HC0 := Aside0.mk hc0
 clear hr0 hc0
 have HR1 := Aside0.mk hr1
 have HC1 := Aside0.mk hc1
 clear hr1 hc1
 have HB := Aside0.mk (Below.refl w.heap.size w)
 have H : ((q2z.f k l0).bind fun t1 => ((q2z.f k l1).bind fun t4 => (q4z.l0 k t1 t4 ([] : List (S33))))) = some r := h
 clear h
 replace H := Option.bind_eq_some_iff.mp H
 obtain ⟨t1, A30, H⟩ := H
 replace H : ((q2z.f k l1).bind fun t4 => (q4z.l0 k t1 t4 ([] : List (S33)))) = some r := H
 have A3 := Aside0.mk A30
 clear A30
 replace H := Option.bind_eq_some_iff.mp H
 obtain ⟨t4, A40, H⟩ := H
 replace H : (q4z.l0 k t1 t4 ([] : List (S33))) = some r := H
 have A4 := Aside0.mk A40
 clear A40
 have H' := Aside0.mk H
 clear H
 go_enter Try.func18, Try.ntmps18
 go_wp2_with (first | go_step3 | (go_at_call 14; (with_reducible refine (q2z.calls k _ _ l0 t1 _ ?side1 ?side2 A3.out).mono ?_); (case side1 => repeat (first | exact HR0.out | (with_reducible refine Kd.C_alloc ?_ _) | (with_reducible refine Kd.C_drewN ?_ _) | (with_reducible refine Kd.C_drew ?_))); (case side2 => exact HC0.out); rintro e w5 ⟨v2, rfl, ho0, hb⟩; have n0_ := Aside0.mk (Kd.R_lower ho0 (below_size (by repeat (first | (with_reducible first | exact HB.out | apply below_alloc | apply pw_below_drewN | apply below_drew1) | exact HB.out)))); have n1_ := Aside0.mk (below_step (by repeat (first | (with_reducible first | exact HB.out | apply below_alloc | apply pw_below_drewN | apply below_drew1) | exact HB.out)) hb); clear HB; have HO3 := n0_; have HB := n1_; clear n0_ n1_; (try clear hb); (try clear hb2); (try clear hk); (try clear hi); (try clear ho0)) | (go_at_call 14; (with_reducible refine (q2z.calls k _ _ l1 t4 _ ?side1 ?side2 A4.out).mono ?_); (case side1 => repeat (first | exact (Kd.C_below HR1.out HB.out) | (with_reducible refine Kd.C_alloc ?_ _) | (with_reducible refine Kd.C_drewN ?_ _) | (with_reducible refine Kd.C_drew ?_))); (case side2 => exact HC1.out); rintro e w6 ⟨v5, rfl, ho0, hb⟩; have n0_ := Aside0.mk (Kd.R_elder' (by (with_reducible repeat (first | apply Kd.R_alloc | apply Kd.R_drewN | apply Kd.R_drew)); exact HO3.out) (Kd.R_base ho0) hb); have n1_ := Aside0.mk (Kd.R_lower (Kd.R_new' ho0 (Kd.R_lt (by (with_reducible repeat (first | apply Kd.R_alloc | apply Kd.R_drewN | apply Kd.R_drew)); exact HO3.out))) (below_size (by repeat (first | (with_reducible first | exact HB.out | apply below_alloc | apply pw_below_drewN | apply below_drew1) | exact HB.out)))); have n2_ := Aside0.mk (below_step (by repeat (first | (with_reducible first | exact HB.out | apply below_alloc | apply pw_below_drewN | apply below_drew1) | exact HB.out)) hb); clear HO3; clear HB; have HO3 := n0_; have HO6 := n1_; have HB := n2_; clear n0_ n1_ n2_; (try clear hb); (try clear hb2); (try clear hk); (try clear hi); (try clear ho0)))
 repeat (go_quiet (first | (go_at_call 14; (with_reducible refine (q2z.calls k _ _ l0 t1 _ ?side1 ?side2 A3.out).mono ?_); (case side1 => repeat (first | exact HR0.out | (with_reducible refine Kd.C_alloc ?_ _) | (with_reducible refine Kd.C_drewN ?_ _) | (with_reducible refine Kd.C_drew ?_))); (case side2 => exact HC0.out); rintro e w5 ⟨v2, rfl, ho0, hb⟩; have n0_ := Aside0.mk (Kd.R_lower ho0 (below_size (by repeat (first | (with_reducible first | exact HB.out | apply below_alloc | apply pw_below_drewN | apply below_drew1) | exact HB.out)))); have n1_ := Aside0.mk (below_step (by repeat (first | (with_reducible first | exact HB.out | apply below_alloc | apply pw_below_drewN | apply below_drew1) | exact HB.out)) hb); clear HB; have HO3 := n0_; have HB := n1_; clear n0_ n1_; (try clear hb); (try clear hb2); (try clear hk); (try clear hi); (try clear ho0)) | (go_at_call 14; (with_reducible refine (q2z.calls k _ _ l1 t4 _ ?side1 ?side2 A4.out).mono ?_); (case side1 => repeat (first | exact (Kd.C_below HR1.out HB.out) | (with_reducible refine Kd.C_alloc ?_ _) | (with_reducible refine Kd.C_drewN ?_ _) | (with_reducible refine Kd.C_drew ?_))); (case side2 => exact HC1.out); rintro e w6 ⟨v5, rfl, ho0, hb⟩; have n0_ := Aside0.mk (Kd.R_elder' (by (with_reducible repeat (first | apply Kd.R_alloc | apply Kd.R_drewN | apply Kd.R_drew)); exact HO3.out) (Kd.R_base ho0) hb); have n1_ := Aside0.mk (Kd.R_lower (Kd.R_new' ho0 (Kd.R_lt (by (with_reducible repeat (first | apply Kd.R_alloc | apply Kd.R_drewN | apply Kd.R_drew)); exact HO3.out))) (below_size (by repeat (first | (with_reducible first | exact HB.out | apply below_alloc | apply pw_below_drewN | apply below_drew1) | exact HB.out)))); have n2_ := Aside0.mk (below_step (by repeat (first | (with_reducible first | exact HB.out | apply below_alloc | apply pw_below_drewN | apply below_drew1) | exact HB.out)) hb); clear HO3; clear HB; have HO3 := n0_; have HO6 := n1_; have HB := n2_; clear n0_ n1_ n2_; (try clear hb); (try clear hb2); (try clear hk); (try clear hi); (try clear ho0))); try go_wp2_with (first | go_step3 | (go_at_call 14; (with_reducible refine (q2z.calls k _ _ l0 t1 _ ?side1 ?side2 A3.out).mono ?_); (case side1 => repeat (first | exact HR0.out | (with_reducible refine Kd.C_alloc ?_ _) | (with_reducible refine Kd.C_drewN ?_ _) | (with_reducible refine Kd.C_drew ?_))); (case side2 => exact HC0.out); rintro e w5 ⟨v2, rfl, ho0, hb⟩; have n0_ := Aside0.mk (Kd.R_lower ho0 (below_size (by repeat (first | (with_reducible first | exact HB.out | apply below_alloc | apply pw_below_drewN | apply below_drew1) | exact HB.out)))); have n1_ := Aside0.mk (below_step (by repeat (first | (with_reducible first | exact HB.out | apply below_alloc | apply pw_below_drewN | apply below_drew1) | exact HB.out)) hb); clear HB; have HO3 := n0_; have HB := n1_; clear n0_ n1_; (try clear hb); (try clear hb2); (try clear hk); (try clear hi); (try clear ho0)) | (go_at_call 14; (with_reducible refine (q2z.calls k _ _ l1 t4 _ ?side1 ?side2 A4.out).mono ?_); (case side1 => repeat (first | exact (Kd.C_below HR1.out HB.out) | (with_reducible refine Kd.C_alloc ?_ _) | (with_reducible refine Kd.C_drewN ?_ _) | (with_reducible refine Kd.C_drew ?_))); (case side2 => exact HC1.out); rintro e w6 ⟨v5, rfl, ho0, hb⟩; have n0_ := Aside0.mk (Kd.R_elder' (by (with_reducible repeat (first | apply Kd.R_alloc | apply Kd.R_drewN | apply Kd.R_drew)); exact HO3.out) (Kd.R_base ho0) hb); have n1_ := Aside0.mk (Kd.R_lower (Kd.R_new' ho0 (Kd.R_lt (by (with_reducible repeat (first | apply Kd.R_alloc | apply Kd.R_drewN | apply Kd.R_drew)); exact HO3.out))) (below_size (by repeat (first | (with_reducible first | exact HB.out | apply below_alloc | apply pw_below_drewN | apply below_drew1) | exact HB.out)))); have n2_ := Aside0.mk (below_step (by repeat (first | (with_reducible first | exact HB.out | apply below_alloc | apply pw_below_drewN | apply below_drew1) | exact HB.out)) hb); clear HO3; clear HB; have HO3 := n0_; have HO6 := n1_; have HB := n2_; clear n0_ n1_ n2_; (try clear hb); (try clear hb2); (try clear hk); (try clear hi); (try clear ho0))))
 go_loopg [0, 1, 5] k (fun kq v0 v1 v5 w' => ∃ (x0_1 : List (S33)) (x1_1 : List (S33)) (x5_1 : List (S33)), Aside0 (q4z.l0 kq x0_1 x1_1 x5_1 = some r) ∧ Aside0 (kq ≤ k) ∧ Aside0 (Kd.Q k33 33 w' w.heap.size (fun k_ => some k_ ≠ (v1 : Value).ownBlock ∧ some k_ ≠ (v5 : Value).ownBlock) v0 x0_1) ∧ Aside0 (Kd.Q k33 33 w' w.heap.size (fun k_ => some k_ ≠ (v0 : Value).ownBlock ∧ some k_ ≠ (v5 : Value).ownBlock) v1 x1_1) ∧ Aside0 (Kd.R k33 33 w' w.heap.size (fun k_ => some k_ ≠ (v0 : Value).ownBlock ∧ some k_ ≠ (v1 : Value).ownBlock) v5 x5_1) ∧ Aside0 (Below w.heap.size w w'))
 case atStart => exact ⟨(t1), (t4), (([] : List (S33))), H', ⟨Nat.le_refl _⟩, ⟨Kd.Q_of_R (by (with_reducible repeat (first | apply Kd.R_alloc | apply Kd.R_drewN | apply Kd.R_drew)); exact Kd.R_mono HO3.out (fun _ hk => ⟨hk.2, (by simp [Value.ownBlock])⟩))⟩, ⟨Kd.Q_of_R (by (with_reducible repeat (first | apply Kd.R_alloc | apply Kd.R_drewN | apply Kd.R_drew)); exact Kd.R_mono HO6.out (fun _ hk => ⟨hk.2, (by simp [Value.ownBlock])⟩))⟩, ⟨by first | exact Kd.R_nil _ _ _ _ _ | exact Kd.N_nil _ _ _ _ _ | exact Kd.V_nil _ _ _ _ _ | exact Kd.Q_nil _ _ _ _ _ | exact Kd.S_nil _ _ _ _ _⟩, ⟨by repeat (first | (with_reducible first | exact HB.out | apply below_alloc | apply pw_below_drewN | apply below_drew1) | exact HB.out)⟩⟩
 case round =>
  clear H'
  try clear c1
  try clear p2
  obtain ⟨x0_1, x1_1, x5_1, HA, HK1, HO_0, HO_1, HO_5, HB⟩ := hrel
  cases gk with
  | zero => exact absurd HA.out (by simp [q4z.l0])
  | succ k1 =>
   have H := HA.out
   clear HA
   simp only [q4z.l0] at H
   have HC7 := Aside0.mk H
   clear H
   go_upto_region 3 with (fail)
   repeat (go_quiet (fail); go_upto_region 3 with (fail))
   go_cut [19] (fun v19 wc => ∃ (kq : Nat) (x19_6 : Bool), v19 = .bool x19_6 ∧ Aside0 (q4z.j1 kq x0_1 x1_1 x5_1 x19_6 = some r) ∧ Aside0 (kq ≤ k1) ∧ Aside0 (Kd.Q k33 33 wc w.heap.size (fun k_ => some k_ ≠ (u1 : Value).ownBlock ∧ some k_ ≠ (u5 : Value).ownBlock) u0 x0_1) ∧ Aside0 (Kd.Q k33 33 wc w.heap.size (fun k_ => some k_ ≠ (u0 : Value).ownBlock ∧ some k_ ≠ (u5 : Value).ownBlock) u1 x1_1) ∧ Aside0 (Kd.R k33 33 wc w.heap.size (fun k_ => some k_ ≠ (u0 : Value).ownBlock ∧ some k_ ≠ (u1 : Value).ownBlock) u5 x5_1) ∧ Aside0 (Below w.heap.size w wc))
   case first =>
    have H := HC7.out
    clear HC7
    by_cases c8 : (x0_1.length : Int) > 0
    ·
     rw [if_pos c8] at H
     have c8b0 : decide (0 < (x0_1.length : Int)) = true := decide_eq_true c8
     have c8b1 : decide (0 < x0_1.length) = true := decide_eq_true (by omega)
     clear c8
     (first | rw [c8b0] | (simp only [i64_w, i32_w, IntKind.wrap_u32]; rw [c8b0]) | skip)
     have H' := Aside0.mk H
     clear H
     obtain ⟨Ao9, co9, eo9, _⟩ := Kd.Q_slice HO_0.out
     subst eo9
     obtain ⟨Ao10, co10, eo10, _⟩ := Kd.Q_slice HO_1.out
     subst eo10
     go_wp2
     repeat (go_quiet (fail); try go_wp2)
     go_meet
     case rel => exact ⟨_, (decide ((x1_1.length : Int) > 0)), (by first | rfl | (simp; done) | (simp [*]; done)), H', ⟨by have := HK1.out; first | omega | exact Nat.le_refl _⟩, ⟨by (with_reducible repeat (first | apply Kd.Q_alloc | apply Kd.Q_drewN | apply Kd.Q_drew)); exact HO_0.out⟩, ⟨by (with_reducible repeat (first | apply Kd.Q_alloc | apply Kd.Q_drewN | apply Kd.Q_drew)); exact HO_1.out⟩, ⟨by (with_reducible repeat (first | apply Kd.R_alloc | apply Kd.R_drewN | apply Kd.R_drew)); exact HO_5.out⟩, ⟨by repeat (first | (with_reducible first | exact HB.out | apply below_alloc | apply pw_below_drewN | apply below_drew1) | exact HB.out)⟩⟩
    ·
     rw [if_neg c8] at H
     have c8b0 : decide (0 < (x0_1.length : Int)) = false := decide_eq_false c8
     have c8b1 : decide (0 < x0_1.length) = false := decide_eq_false (by omega)
     clear c8
     (first | rw [c8b0] | (simp only [i64_w, i32_w, IntKind.wrap_u32]; rw [c8b0]) | skip)
     have H' := Aside0.mk H
     clear H
     obtain ⟨Ao11, co11, eo11, _⟩ := Kd.Q_slice HO_0.out
     subst eo11
     go_wp2
     repeat (go_quiet (fail); try go_wp2)
     go_meet
     case rel => exact ⟨_, (false), (by first | rfl | (simp; done) | (simp [*]; done)), H', ⟨by have := HK1.out; first | omega | exact Nat.le_refl _⟩, ⟨by (with_reducible repeat (first | apply Kd.Q_alloc | apply Kd.Q_drewN | apply Kd.Q_drew)); exact HO_0.out⟩, ⟨by (with_reducible repeat (first | apply Kd.Q_alloc | apply Kd.Q_drewN | apply Kd.Q_drew)); exact HO_1.out⟩, ⟨by (with_reducible repeat (first | apply Kd.R_alloc | apply Kd.R_drewN | apply Kd.R_drew)); exact HO_5.out⟩, ⟨by repeat (first | (with_reducible first | exact HB.out | apply below_alloc | apply pw_below_drewN | apply below_drew1) | exact HB.out)⟩⟩
   case rest =>
    clear HC7
    try clear c1
    try clear p2
    try clear c8
    try clear c8b0
    try clear c8b1
    try clear p2
    obtain ⟨kq, x19_6, rfl, HA, HJ6, HO_0, HO_1, HO_5, HB⟩ := hcut
    cases kq with
    | zero => exact absurd HA.out (by simp [q4z.j1])
    | succ kj6 =>
     have H := HA.out
     clear HA
     simp only [q4z.j1] at H
     by_cases c12 : x19_6 = true
     ·
      subst c12
      have H1 : (if 0 < (x0_1.length : Int) then (if 0 < (x1_1.length : Int) then (if (mx ((rd_T33 x0_1 0).f0) ((rd_T33 x1_1 0).f0)) ≤ (mn ((rd_T33 x0_1 0).f1) ((rd_T33 x1_1 0).f1)) then (if x5_1.length < 17592186044416 then (q4z.j2 kj6 x0_1 x1_1 (x5_1 ++ [(⟨mx ((rd_T33 x0_1 0).f0) ((rd_T33 x1_1 0).f0), mn ((rd_T33 x0_1 0).f1) ((rd_T33 x1_1 0).f1)⟩ : S33)]) (mn ((rd_T33 x0_1 0).f1) ((rd_T33 x1_1 0).f1))) else (none)) else (q4z.j2 kj6 x0_1 x1_1 x5_1 (mn ((rd_T33 x0_1 0).f1) ((rd_T33 x1_1 0).f1)))) else (none)) else (none)) = some r := by rw [if_pos rfl] at H; exact H
      clear H
      have H := H1
      clear H1
      by_cases c13 : 0 < (x0_1.length : Int)
      ·
       rw [if_pos c13] at H
       have c13b0 : decide (0 < (x0_1.length : Int)) = true := decide_eq_true c13
       have c13b1 : decide (0 < x0_1.length) = true := decide_eq_true (by omega)
       clear c13
       by_cases c14 : 0 < (x1_1.length : Int)
       ·
        rw [if_pos c14] at H
        have c14b0 : decide (0 < (x1_1.length : Int)) = true := decide_eq_true c14
        have c14b1 : decide (0 < x1_1.length) = true := decide_eq_true (by omega)
        clear c14
        obtain ⟨ji15, hji15⟩ : ∃ j_ : Int, (mx ((rd_T33 x0_1 0).f0) ((rd_T33 x1_1 0).f0)) = j_ := ⟨_, rfl⟩
        replace H : (if (ji15) ≤ (mn ((rd_T33 x0_1 0).f1) ((rd_T33 x1_1 0).f1)) then (if x5_1.length < 17592186044416 then (q4z.j2 kj6 x0_1 x1_1 (x5_1 ++ [(⟨ji15, mn ((rd_T33 x0_1 0).f1) ((rd_T33 x1_1 0).f1)⟩ : S33)]) (mn ((rd_T33 x0_1 0).f1) ((rd_T33 x1_1 0).f1))) else (none)) else (q4z.j2 kj6 x0_1 x1_1 x5_1 (mn ((rd_T33 x0_1 0).f1) ((rd_T33 x1_1 0).f1)))) = some r := by first | (rw [hji15] at H; exact H) | (simp only [hji15] at H ⊢; exact H)
        have hji15_ : (if ((rd_T33 x0_1 0).f0) < ((rd_T33 x1_1 0).f0) then ((rd_T33 x1_1 0).f0) else ((rd_T33 x0_1 0).f0)) = ji15 := hji15
        obtain ⟨ji16, hji16⟩ : ∃ j_ : Int, (mn ((rd_T33 x0_1 0).f1) ((rd_T33 x1_1 0).f1)) = j_ := ⟨_, rfl⟩
        replace H : (if (ji15) ≤ (ji16) then (if x5_1.length < 17592186044416 then (q4z.j2 kj6 x0_1 x1_1 (x5_1 ++ [(⟨ji15, ji16⟩ : S33)]) ji16) else (none)) else (q4z.j2 kj6 x0_1 x1_1 x5_1 ji16)) = some r := by first | (rw [hji16] at H; exact H) | (simp only [hji16] at H ⊢; exact H)
        have hji16_ : (if ((rd_T33 x1_1 0).f1) < ((rd_T33 x0_1 0).f1) then ((rd_T33 x1_1 0).f1) else ((rd_T33 x0_1 0).f1)) = ji16 := hji16
        have HC17 := Aside0.mk H
        clear H
        obtain ⟨Ao18, co18, eo18, _⟩ := Kd.Q_slice HO_0.out
        subst eo18
        have p7 : 0 ≤ (0 : Int) := (by omega)
        have q7 : 0 < (x0_1.length : Int) := of_decide_eq_true (by first | (with_reducible assumption) | assumption)
        obtain ⟨ad7, e7, hx7_0, hx7_1⟩ := at_T33 (Kd.Q_reads' HO_0.out).2.2 0 p7 q7
        cases e7
        have qi7 : (0 < x0_1.length) = True := eq_true (by omega)
        (try rw [show ((0 : Int)).toNat = 0 from rfl] at hx7_0)
        (try rw [show 0 * 2 = 0 from rfl] at hx7_0)
        (try rw [Addr.add_zero'] at hx7_0)
        (try rw [show ((0 : Int)).toNat = 0 from rfl] at hx7_1)
        (try rw [show 0 * 2 = 0 from rfl] at hx7_1)
        (try rw [Addr.add_zero'] at hx7_1)
        replace p7 := eq_true p7
        replace q7 := eq_true q7
        obtain ⟨Ao19, co19, eo19, _⟩ := Kd.Q_slice HO_1.out
        subst eo19
        have p8 : 0 ≤ (0 : Int) := (by omega)
        have q8 : 0 < (x1_1.length : Int) := of_decide_eq_true (by first | (with_reducible assumption) | assumption)
        obtain ⟨ad8, e8, hx8_0, hx8_1⟩ := at_T33 (Kd.Q_reads' HO_1.out).2.2 0 p8 q8
        cases e8
        have qi8 : (0 < x1_1.length) = True := eq_true (by omega)
        (try rw [show ((0 : Int)).toNat = 0 from rfl] at hx8_0)
        (try rw [show 0 * 2 = 0 from rfl] at hx8_0)
        (try rw [Addr.add_zero'] at hx8_0)
        (try rw [show ((0 : Int)).toNat = 0 from rfl] at hx8_1)
        (try rw [show 0 * 2 = 0 from rfl] at hx8_1)
        (try rw [Addr.add_zero'] at hx8_1)
        replace p8 := eq_true p8
        replace q8 := eq_true q8
        have p9 : 0 ≤ (0 : Int) := (by omega)
        have q9 : 0 < (x0_1.length : Int) := of_decide_eq_true (by first | (with_reducible assumption) | assumption)
        obtain ⟨ad9, e9, hx9_0, hx9_1⟩ := at_T33 (Kd.Q_reads' HO_0.out).2.2 0 p9 q9
        obtain rfl : ad7 = ad9 := (by injection e9)
        have qi9 : (0 < x0_1.length) = True := eq_true (by omega)
        (try rw [show ((0 : Int)).toNat = 0 from rfl] at hx9_0)
        (try rw [show 0 * 2 = 0 from rfl] at hx9_0)
        (try rw [Addr.add_zero'] at hx9_0)
        (try rw [show ((0 : Int)).toNat = 0 from rfl] at hx9_1)
        (try rw [show 0 * 2 = 0 from rfl] at hx9_1)
        (try rw [Addr.add_zero'] at hx9_1)
        replace p9 := eq_true p9
        replace q9 := eq_true q9
        have p10 : 0 ≤ (0 : Int) := (by omega)
        have q10 : 0 < (x1_1.length : Int) := of_decide_eq_true (by first | (with_reducible assumption) | assumption)
        obtain ⟨ad10, e10, hx10_0, hx10_1⟩ := at_T33 (Kd.Q_reads' HO_1.out).2.2 0 p10 q10
        obtain rfl : ad8 = ad10 := (by injection e10)
        have qi10 : (0 < x1_1.length) = True := eq_true (by omega)
        (try rw [show ((0 : Int)).toNat = 0 from rfl] at hx10_0)
        (try rw [show 0 * 2 = 0 from rfl] at hx10_0)
        (try rw [Addr.add_zero'] at hx10_0)
        (try rw [show ((0 : Int)).toNat = 0 from rfl] at hx10_1)
        (try rw [show 0 * 2 = 0 from rfl] at hx10_1)
        (try rw [Addr.add_zero'] at hx10_1)
        replace p10 := eq_true p10
        replace q10 := eq_true q10
        go_upto_if 40 with (fail)
        repeat (go_quiet (fail); go_upto_if 40 with (fail))
        go_cut [5] (fun v5 wc => ∃ (kq : Nat) (x5_16 : List (S33)), Aside0 (q4z.j2 kq x0_1 x1_1 x5_16 ji16 = some r) ∧ Aside0 (kq ≤ kj6) ∧ Aside0 (Kd.Q k33 33 wc w.heap.size (fun k_ => some k_ ≠ ((.slice (some ad8) x1_1.length co19) : Value).ownBlock ∧ some k_ ≠ (v5 : Value).ownBlock) (.slice (some ad7) x0_1.length co18) x0_1) ∧ Aside0 (Kd.Q k33 33 wc w.heap.size (fun k_ => some k_ ≠ ((.slice (some ad7) x0_1.length co18) : Value).ownBlock ∧ some k_ ≠ (v5 : Value).ownBlock) (.slice (some ad8) x1_1.length co19) x1_1) ∧ Aside0 (Kd.R k33 33 wc w.heap.size (fun k_ => some k_ ≠ ((.slice (some ad7) x0_1.length co18) : Value).ownBlock ∧ some k_ ≠ ((.slice (some ad8) x1_1.length co19) : Value).ownBlock) v5 x5_16) ∧ Aside0 (Below w.heap.size w wc))
        case first =>
         have H := HC17.out
         clear HC17
         by_cases c20 : (ji15) ≤ (ji16)
         ·
          rw [if_pos c20] at H
          have c20b0 : decide ((ji15) ≤ (ji16)) = true := decide_eq_true c20
          clear c20
          (first | rw [c20b0] | (simp only [i64_w, i32_w, IntKind.wrap_u32]; rw [c20b0]) | skip)
          by_cases c21 : x5_1.length < 17592186044416
          ·
           rw [if_pos c21] at H
           have LMc21 := Aside0.mk c21
           clear c21
           obtain ⟨y11, hy11⟩ : ∃ y_ : List (S33), y_ = (x5_1 ++ [(⟨ji15, ji16⟩ : S33)]) := ⟨_, rfl⟩
           replace H : (q4z.j2 kj6 x0_1 x1_1 y11 ji16) = some r := by first | (rw [hy11]; with_reducible exact H) | (have H2_ := (Option.bind_some _ _).symm.trans H; rw [hy11]; with_reducible exact H2_) | (have H2_ := (Option.bind_some _ _).symm.trans H; with_reducible exact H2_) | with_reducible exact H | (rw [hy11]; exact H) | exact H
           have Ny11 := Aside0.mk hy11
           clear hy11
           have H' := Aside0.mk H
           clear H
           go_wp2_with (first | go_step3 | ((with_reducible refine gate_builtin (b := .append) (xs := #[.tmp 41, .tmp 45]) rfl ?_); (try (refine gate_guard (by rfl) ?_; dsimp only)); at_builtin; refine Kd.R_append k33 (w0 := w) w.heap.size rfl (.tmp 41) (.tmp 45) 24 33 (.agg #[(.int .u32 0), (.int .u32 0)]) 8 rfl Try.underlying24 info33 rfl (by decide) (by omega) u5 x5_1 (⟨ji15, ji16⟩ : S33) [.int .u32 ji15, .int .u32 ji16] (fun k_ => some k_ ≠ (.slice (some ad7) x0_1.length co18 : Value).ownBlock ∧ some k_ ≠ (.slice (some ad8) x1_1.length co19 : Value).ownBlock) (fun _ => False) rfl rfl ?aP (fun _ hk => hk.elim) ?aF ?aO ?aB ?aS ?aL ?_; (case aP => exact k33_mkM _ _ _ (⟨ji15, ji16⟩ : S33)); (case aB => exact (by repeat (first | (with_reducible first | exact HB.out | apply below_alloc | apply pw_below_drewN | apply below_drew1) | exact HB.out))); (case aF => exact (fun k_ hk => ⟨Kd.fresh' (Kd.Q_lt (by (with_reducible repeat (first | apply Kd.Q_alloc | apply Kd.Q_drewN | apply Kd.Q_drew)); exact HO_0.out)) k_ hk, Kd.fresh' (Kd.Q_lt (by (with_reducible repeat (first | apply Kd.Q_alloc | apply Kd.Q_drewN | apply Kd.Q_drew)); exact HO_1.out)) k_ hk⟩)); (case aO => exact (by (with_reducible repeat (first | apply Kd.R_alloc | apply Kd.R_drewN | apply Kd.R_drew)); exact HO_5.out)); (case aS => exact (below_size (by repeat (first | (with_reducible first | exact HB.out | apply below_alloc | apply pw_below_drewN | apply below_drew1) | exact HB.out)))); (case aL => have := LMc21.out; omega); intro v12 w22 ho hb hg hat; rw [← Ny11.out] at ho; have n0_ := Aside0.mk (Kd.Q_after (ok := (fun k_ => some k_ ≠ (.slice (some ad8) x1_1.length co19 : Value).ownBlock)) (by (with_reducible repeat (first | apply Kd.Q_alloc | apply Kd.Q_drewN | apply Kd.Q_drew)); exact HO_0.out) hg hat); have n1_ := Aside0.mk (Kd.Q_after (ok := (fun k_ => some k_ ≠ (.slice (some ad7) x0_1.length co18 : Value).ownBlock)) (by (with_reducible repeat (first | apply Kd.Q_alloc | apply Kd.Q_drewN | apply Kd.Q_drew)); exact HO_1.out) hg hat); have n2_ := Aside0.mk (hb); have n3_ := Aside0.mk (ho); clear HO_0; clear HO_1; clear HB; clear HO_5; have HO_0 := n0_; have HO_1 := n1_; have HB := n2_; have HO13 := n3_; clear n0_ n1_ n2_ n3_; clear ho hb hg hat))
           repeat (go_quiet (first | ((with_reducible refine gate_builtin (b := .append) (xs := #[.tmp 41, .tmp 45]) rfl ?_); (try (refine gate_guard (by rfl) ?_; dsimp only)); at_builtin; refine Kd.R_append k33 (w0 := w) w.heap.size rfl (.tmp 41) (.tmp 45) 24 33 (.agg #[(.int .u32 0), (.int .u32 0)]) 8 rfl Try.underlying24 info33 rfl (by decide) (by omega) u5 x5_1 (⟨ji15, ji16⟩ : S33) [.int .u32 ji15, .int .u32 ji16] (fun k_ => some k_ ≠ (.slice (some ad7) x0_1.length co18 : Value).ownBlock ∧ some k_ ≠ (.slice (some ad8) x1_1.length co19 : Value).ownBlock) (fun _ => False) rfl rfl ?aP (fun _ hk => hk.elim) ?aF ?aO ?aB ?aS ?aL ?_; (case aP => exact k33_mkM _ _ _ (⟨ji15, ji16⟩ : S33)); (case aB => exact (by repeat (first | (with_reducible first | exact HB.out | apply below_alloc | apply pw_below_drewN | apply below_drew1) | exact HB.out))); (case aF => exact (fun k_ hk => ⟨Kd.fresh' (Kd.Q_lt (by (with_reducible repeat (first | apply Kd.Q_alloc | apply Kd.Q_drewN | apply Kd.Q_drew)); exact HO_0.out)) k_ hk, Kd.fresh' (Kd.Q_lt (by (with_reducible repeat (first | apply Kd.Q_alloc | apply Kd.Q_drewN | apply Kd.Q_drew)); exact HO_1.out)) k_ hk⟩)); (case aO => exact (by (with_reducible repeat (first | apply Kd.R_alloc | apply Kd.R_drewN | apply Kd.R_drew)); exact HO_5.out)); (case aS => exact (below_size (by repeat (first | (with_reducible first | exact HB.out | apply below_alloc | apply pw_below_drewN | apply below_drew1) | exact HB.out)))); (case aL => have := LMc21.out; omega); intro v12 w22 ho hb hg hat; rw [← Ny11.out] at ho; have n0_ := Aside0.mk (Kd.Q_after (ok := (fun k_ => some k_ ≠ (.slice (some ad8) x1_1.length co19 : Value).ownBlock)) (by (with_reducible repeat (first | apply Kd.Q_alloc | apply Kd.Q_drewN | apply Kd.Q_drew)); exact HO_0.out) hg hat); have n1_ := Aside0.mk (Kd.Q_after (ok := (fun k_ => some k_ ≠ (.slice (some ad7) x0_1.length co18 : Value).ownBlock)) (by (with_reducible repeat (first | apply Kd.Q_alloc | apply Kd.Q_drewN | apply Kd.Q_drew)); exact HO_1.out) hg hat); have n2_ := Aside0.mk (hb); have n3_ := Aside0.mk (ho); clear HO_0; clear HO_1; clear HB; clear HO_5; have HO_0 := n0_; have HO_1 := n1_; have HB := n2_; have HO13 := n3_; clear n0_ n1_ n2_ n3_; clear ho hb hg hat)); try go_wp2_with (first | go_step3 | ((with_reducible refine gate_builtin (b := .append) (xs := #[.tmp 41, .tmp 45]) rfl ?_); (try (refine gate_guard (by rfl) ?_; dsimp only)); at_builtin; refine Kd.R_append k33 (w0 := w) w.heap.size rfl (.tmp 41) (.tmp 45) 24 33 (.agg #[(.int .u32 0), (.int .u32 0)]) 8 rfl Try.underlying24 info33 rfl (by decide) (by omega) u5 x5_1 (⟨ji15, ji16⟩ : S33) [.int .u32 ji15, .int .u32 ji16] (fun k_ => some k_ ≠ (.slice (some ad7) x0_1.length co18 : Value).ownBlock ∧ some k_ ≠ (.slice (some ad8) x1_1.length co19 : Value).ownBlock) (fun _ => False) rfl rfl ?aP (fun _ hk => hk.elim) ?aF ?aO ?aB ?aS ?aL ?_; (case aP => exact k33_mkM _ _ _ (⟨ji15, ji16⟩ : S33)); (case aB => exact (by repeat (first | (with_reducible first | exact HB.out | apply below_alloc | apply pw_below_drewN | apply below_drew1) | exact HB.out))); (case aF => exact (fun k_ hk => ⟨Kd.fresh' (Kd.Q_lt (by (with_reducible repeat (first | apply Kd.Q_alloc | apply Kd.Q_drewN | apply Kd.Q_drew)); exact HO_0.out)) k_ hk, Kd.fresh' (Kd.Q_lt (by (with_reducible repeat (first | apply Kd.Q_alloc | apply Kd.Q_drewN | apply Kd.Q_drew)); exact HO_1.out)) k_ hk⟩)); (case aO => exact (by (with_reducible repeat (first | apply Kd.R_alloc | apply Kd.R_drewN | apply Kd.R_drew)); exact HO_5.out)); (case aS => exact (below_size (by repeat (first | (with_reducible first | exact HB.out | apply below_alloc | apply pw_below_drewN | apply below_drew1) | exact HB.out)))); (case aL => have := LMc21.out; omega); intro v12 w22 ho hb hg hat; rw [← Ny11.out] at ho; have n0_ := Aside0.mk (Kd.Q_after (ok := (fun k_ => some k_ ≠ (.slice (some ad8) x1_1.length co19 : Value).ownBlock)) (by (with_reducible repeat (first | apply Kd.Q_alloc | apply Kd.Q_drewN | apply Kd.Q_drew)); exact HO_0.out) hg hat); have n1_ := Aside0.mk (Kd.Q_after (ok := (fun k_ => some k_ ≠ (.slice (some ad7) x0_1.length co18 : Value).ownBlock)) (by (with_reducible repeat (first | apply Kd.Q_alloc | apply Kd.Q_drewN | apply Kd.Q_drew)); exact HO_1.out) hg hat); have n2_ := Aside0.mk (hb); have n3_ := Aside0.mk (ho); clear HO_0; clear HO_1; clear HB; clear HO_5; have HO_0 := n0_; have HO_1 := n1_; have HB := n2_; have HO13 := n3_; clear n0_ n1_ n2_ n3_; clear ho hb hg hat)))
           go_meet
           case rel => exact ⟨_, (y11), H', ⟨by have := HK1.out; have := HJ6.out; first | omega | exact Nat.le_refl _⟩, ⟨by (with_reducible repeat (first | apply Kd.Q_alloc | apply Kd.Q_drewN | apply Kd.Q_drew)); exact HO_0.out⟩, ⟨by (with_reducible repeat (first | apply Kd.Q_alloc | apply Kd.Q_drewN | apply Kd.Q_drew)); exact HO_1.out⟩, ⟨by (with_reducible repeat (first | apply Kd.R_alloc | apply Kd.R_drewN | apply Kd.R_drew)); exact HO13.out⟩, ⟨by repeat (first | (with_reducible first | exact HB.out | apply below_alloc | apply pw_below_drewN | apply below_drew1) | exact HB.out)⟩⟩
          ·
           rw [if_neg c21] at H
           exact absurd H (by simp)
         ·
          rw [if_neg c20] at H
          have c20b0 : decide ((ji15) ≤ (ji16)) = false := decide_eq_false c20
          clear c20
          (first | rw [c20b0] | (simp only [i64_w, i32_w, IntKind.wrap_u32]; rw [c20b0]) | skip)
          have H' := Aside0.mk H
          clear H
          go_wp2
          repeat (go_quiet (fail); try go_wp2)
          go_meet
          case rel => exact ⟨_, (x5_1), H', ⟨by have := HK1.out; have := HJ6.out; first | omega | exact Nat.le_refl _⟩, ⟨by (with_reducible repeat (first | apply Kd.Q_alloc | apply Kd.Q_drewN | apply Kd.Q_drew)); exact HO_0.out⟩, ⟨by (with_reducible repeat (first | apply Kd.Q_alloc | apply Kd.Q_drewN | apply Kd.Q_drew)); exact HO_1.out⟩, ⟨by (with_reducible repeat (first | apply Kd.R_alloc | apply Kd.R_drewN | apply Kd.R_drew)); exact HO_5.out⟩, ⟨by repeat (first | (with_reducible first | exact HB.out | apply below_alloc | apply pw_below_drewN | apply below_drew1) | exact HB.out)⟩⟩
        case rest =>
         clear HC17
         try clear c1
         try clear p1
         try clear q1
         try clear hx1
         try clear qi1
         try clear c2
         try clear p2
         try clear p7
         try clear q7
         try clear hx7
         try clear qi7
         try clear c8
         try clear c8b0
         try clear c8b1
         try clear p8
         try clear q8
         try clear hx8
         try clear qi8
         try clear p9
         try clear q9
         try clear hx9
         try clear qi9
         try clear p10
         try clear q10
         try clear hx10
         try clear qi10
         try clear c12
         try clear c13
         try clear c13b0
         try clear c13b1
         try clear c14
         try clear c14b0
         try clear c14b1
         try clear c18
         try clear c20
         try clear c20b0
         try clear c21
         try clear hx10_0
         try clear hx10_1
         try clear hx7_0
         try clear hx7_1
         try clear hx8_0
         try clear hx8_1
         try clear hx9_0
         try clear hx9_1
         try clear p10
         try clear p2
         try clear p7
         try clear p8
         try clear p9
         try clear q10
         try clear q7
         try clear q8
         try clear q9
         obtain ⟨kq, x5_16, HA, HJ16, HO_0, HO_1, HO_5, HB⟩ := hcut
         cases kq with
         | zero => exact absurd HA.out (by simp [q4z.j2])
         | succ kj16 =>
          have H := HA.out
          clear HA
          simp only [q4z.j2] at H
          by_cases c23 : ji16 = 4294967295
          ·
           rw [if_pos c23] at H
           have c23b0 : (ji16 == 4294967295) = true := beq_iff_eq.mpr c23
           have c23b1 : (ji16 != 4294967295) = false := bne_eq_false_iff_eq.mpr c23
           clear c23
           obtain rfl := Option.some.inj H
           go_wp2
           repeat (go_quiet (fail); try go_wp2)
           (try rw [Exit.noGoto_ret])
           go_ret
           exact ⟨_, by first | rfl | (simp [errW_none, errW_some] <;> rfl) | (simp only [← hji15, ← hji16]; first | rfl | (simp [errW_none, errW_some] <;> rfl)) | (simp [*, errW_none, errW_some] <;> rfl), by (with_reducible repeat (first | apply Kd.R_alloc | apply Kd.R_drewN | apply Kd.R_drew)); exact Kd.R_mono HO_5.out (fun _ hk => trivial), by repeat (first | (with_reducible first | exact HB.out | apply below_alloc | apply pw_below_drewN | apply below_drew1) | exact HB.out)⟩
          ·
           rw [if_neg c23] at H
           have c23b0 : (ji16 == 4294967295) = false := beq_eq_false_iff_ne.mpr c23
           have c23b1 : (ji16 != 4294967295) = true := bne_iff_ne.mpr c23
           by_cases c24 : 0 < (x0_1.length : Int)
           ·
            rw [if_pos c24] at H
            have c24b0 : decide (0 < (x0_1.length : Int)) = true := decide_eq_true c24
            have c24b1 : decide (0 < x0_1.length) = true := decide_eq_true (by omega)
            clear c24
            by_cases c25 : ((rd_T33 x0_1 0).f1) = ji16
            ·
             rw [if_pos c25] at H
             have c25b0 : (((rd_T33 x0_1 0).f1) == ji16) = true := beq_iff_eq.mpr c25
             have c25b1 : (((rd_T33 x0_1 0).f1) != ji16) = false := bne_eq_false_iff_eq.mpr c25
             clear c25
             by_cases c26 : 1 ≤ (x0_1.length : Int)
             ·
              rw [if_pos c26] at H
              have c26b0 := eq_true c26
              have c26b1 : decide (1 ≤ (x0_1.length : Int)) = true := decide_eq_true c26
              clear c26
              obtain ⟨y15, hy15⟩ : ∃ y_ : List (S33), y_ = (x0_1.drop (1 : Int).toNat) := ⟨_, rfl⟩
              replace H : (q4z.l0 kj16 y15 x1_1 x5_16) = some r := by first | (rw [hy15]; with_reducible exact H) | (have H2_ := (Option.bind_some _ _).symm.trans H; rw [hy15]; with_reducible exact H2_) | (have H2_ := (Option.bind_some _ _).symm.trans H; with_reducible exact H2_) | with_reducible exact H | (rw [hy15]; exact H) | exact H
              have Ny15 := Aside0.mk hy15
              clear hy15
              have H' := Aside0.mk H
              clear H
              have p14 : 0 ≤ (0 : Int) := (by omega)
              have q14 : 0 < (x0_1.length : Int) := of_decide_eq_true (by first | (with_reducible assumption) | assumption)
              obtain ⟨ad14, e14, hx14_0, hx14_1⟩ := at_T33 (Kd.Q_reads' HO_0.out).2.2 0 p14 q14
              obtain rfl : ad7 = ad14 := (by injection e14)
              have qi14 : (0 < x0_1.length) = True := eq_true (by omega)
              (try rw [show ((0 : Int)).toNat = 0 from rfl] at hx14_0)
              (try rw [show 0 * 2 = 0 from rfl] at hx14_0)
              (try rw [Addr.add_zero'] at hx14_0)
              (try rw [show ((0 : Int)).toNat = 0 from rfl] at hx14_1)
              (try rw [show 0 * 2 = 0 from rfl] at hx14_1)
              (try rw [Addr.add_zero'] at hx14_1)
              replace p14 := eq_true p14
              replace q14 := eq_true q14
              have q27 : (1 : Int) ≤ ((x0_1.length : Int) : Int) := of_decide_eq_true (by first | (with_reducible assumption) | assumption)
              obtain ⟨i027, hi027, _, hsz27, _⟩ := info_parts info33
              have hcut27 := cut_from (P := Try.prog) 24 33 .i64 Try.underlying24 hi027 2 hsz27 (some ad7) x0_1.length co18 1 (by omega) q27
              have hr27 := Kd.Q_drop (k := (1 : Int).toNat) HO_0.out (by omega)
              obtain ⟨A27, hA27⟩ : ∃ A1, A1 = (if co18 = (1 : Int).toNat then (some ad7) else ((some ad7) : Option Addr).map (·.add ((1 : Int).toNat * 2))) := ⟨_, rfl⟩
              obtain ⟨c27, hc27⟩ : ∃ c1, c1 = co18 - (1 : Int).toNat := ⟨_, rfl⟩
              have hy27 : y15.length = x0_1.length - (1 : Int).toNat := (by rw [Ny15.out, List.length_drop])
              rw [← Ny15.out] at hr27
              rw [← hy27, ← hA27, ← hc27] at hcut27
              replace hr27 : Kd.Q k33 33 wc w.heap.size (fun k_ => some k_ ≠ (.slice (some ad8) x1_1.length co19 : Value).ownBlock ∧ some k_ ≠ (u5 : Value).ownBlock) (.slice A27 y15.length c27) y15 := (by rw [hA27, hc27, hy27]; exact hr27)
              have HE27 : Aside0 ((Value.slice A27 y15.length c27).ownBlock = (.slice (some ad7) x0_1.length co18 : Value).ownBlock) := ⟨by rw [hA27]; split <;> (cases ((some ad7) : Option Addr) <;> rfl)⟩
              clear hy27 hi027 hsz27 HO_0 hA27 hc27
              have HO17 := Aside0.mk hr27
              clear hr27
              replace q27 := eq_true q27
              have n_ := Aside0.mk (Kd.Q_mono (ok' := fun k_ => (some k_ ≠ (.slice A27 y15.length c27 : Value).ownBlock ∧ some k_ ≠ (u5 : Value).ownBlock)) HO_1.out (fun k_ hk => ⟨(by rw [HE27.out]; exact hk.1), hk.2⟩))
              clear HO_1
              have HO_1 := n_
              clear n_
              have n_ := Aside0.mk (Kd.R_mono (ok' := fun k_ => (some k_ ≠ (.slice A27 y15.length c27 : Value).ownBlock ∧ some k_ ≠ (.slice (some ad8) x1_1.length co19 : Value).ownBlock)) HO_5.out (fun k_ hk => ⟨(by rw [HE27.out]; exact hk.1), hk.2⟩))
              clear HO_5
              have HO_5 := n_
              clear n_
              go_wp2
              repeat (go_quiet (fail); try go_wp2)
              go_roundg kj16
              case measure => have := HK1.out; have := HJ6.out; have := HJ16.out; omega
              case rel => exact ⟨(y15), (x1_1), (x5_16), H', ⟨by have := HK1.out; have := HJ6.out; have := HJ16.out; omega⟩, ⟨by (with_reducible repeat (first | apply Kd.Q_alloc | apply Kd.Q_drewN | apply Kd.Q_drew)); exact HO17.out⟩, ⟨by (with_reducible repeat (first | apply Kd.Q_alloc | apply Kd.Q_drewN | apply Kd.Q_drew)); exact HO_1.out⟩, ⟨by (with_reducible repeat (first | apply Kd.R_alloc | apply Kd.R_drewN | apply Kd.R_drew)); exact HO_5.out⟩, ⟨by repeat (first | (with_reducible first | exact HB.out | apply below_alloc | apply pw_below_drewN | apply below_drew1) | exact HB.out)⟩⟩
             ·
              rw [if_neg c26] at H
              exact absurd H (by simp)
            ·
             rw [if_neg c25] at H
             have c25b0 : (((rd_T33 x0_1 0).f1) == ji16) = false := beq_eq_false_iff_ne.mpr c25
             have c25b1 : (((rd_T33 x0_1 0).f1) != ji16) = true := bne_iff_ne.mpr c25
             by_cases c28 : 1 ≤ (x1_1.length : Int)
             ·
              rw [if_pos c28] at H
              have c28b0 := eq_true c28
              have c28b1 : decide (1 ≤ (x1_1.length : Int)) = true := decide_eq_true c28
              clear c28
              obtain ⟨y18, hy18⟩ : ∃ y_ : List (S33), y_ = (x1_1.drop (1 : Int).toNat) := ⟨_, rfl⟩
              replace H : (q4z.l0 kj16 x0_1 y18 x5_16) = some r := by first | (rw [hy18]; with_reducible exact H) | (have H2_ := (Option.bind_some _ _).symm.trans H; rw [hy18]; with_reducible exact H2_) | (have H2_ := (Option.bind_some _ _).symm.trans H; with_reducible exact H2_) | with_reducible exact H | (rw [hy18]; exact H) | exact H
              have Ny18 := Aside0.mk hy18
              clear hy18
              have H' := Aside0.mk H
              clear H
              have p14 : 0 ≤ (0 : Int) := (by omega)
              have q14 : 0 < (x0_1.length : Int) := of_decide_eq_true (by first | (with_reducible assumption) | assumption)
              obtain ⟨ad14, e14, hx14_0, hx14_1⟩ := at_T33 (Kd.Q_reads' HO_0.out).2.2 0 p14 q14
              obtain rfl : ad7 = ad14 := (by injection e14)
              have qi14 : (0 < x0_1.length) = True := eq_true (by omega)
              (try rw [show ((0 : Int)).toNat = 0 from rfl] at hx14_0)
              (try rw [show 0 * 2 = 0 from rfl] at hx14_0)
              (try rw [Addr.add_zero'] at hx14_0)
              (try rw [show ((0 : Int)).toNat = 0 from rfl] at hx14_1)
              (try rw [show 0 * 2 = 0 from rfl] at hx14_1)
              (try rw [Addr.add_zero'] at hx14_1)
              replace p14 := eq_true p14
              replace q14 := eq_true q14
              have q29 : (1 : Int) ≤ ((x1_1.length : Int) : Int) := of_decide_eq_true (by first | (with_reducible assumption) | assumption)
              obtain ⟨i029, hi029, _, hsz29, _⟩ := info_parts info33
              have hcut29 := cut_from (P := Try.prog) 24 33 .i64 Try.underlying24 hi029 2 hsz29 (some ad8) x1_1.length co19 1 (by omega) q29
              have hr29 := Kd.Q_drop (k := (1 : Int).toNat) HO_1.out (by omega)
              obtain ⟨A29, hA29⟩ : ∃ A1, A1 = (if co19 = (1 : Int).toNat then (some ad8) else ((some ad8) : Option Addr).map (·.add ((1 : Int).toNat * 2))) := ⟨_, rfl⟩
              obtain ⟨c29, hc29⟩ : ∃ c1, c1 = co19 - (1 : Int).toNat := ⟨_, rfl⟩
              have hy29 : y18.length = x1_1.length - (1 : Int).toNat := (by rw [Ny18.out, List.length_drop])
              rw [← Ny18.out] at hr29
              rw [← hy29, ← hA29, ← hc29] at hcut29
              replace hr29 : Kd.Q k33 33 wc w.heap.size (fun k_ => some k_ ≠ (.slice (some ad7) x0_1.length co18 : Value).ownBlock ∧ some k_ ≠ (u5 : Value).ownBlock) (.slice A29 y18.length c29) y18 := (by rw [hA29, hc29, hy29]; exact hr29)
              have HE29 : Aside0 ((Value.slice A29 y18.length c29).ownBlock = (.slice (some ad8) x1_1.length co19 : Value).ownBlock) := ⟨by rw [hA29]; split <;> (cases ((some ad8) : Option Addr) <;> rfl)⟩
              clear hy29 hi029 hsz29 HO_1 hA29 hc29
              have HO20 := Aside0.mk hr29
              clear hr29
              replace q29 := eq_true q29
              have n_ := Aside0.mk (Kd.Q_mono (ok' := fun k_ => (some k_ ≠ (.slice A29 y18.length c29 : Value).ownBlock ∧ some k_ ≠ (u5 : Value).ownBlock)) HO_0.out (fun k_ hk => ⟨(by rw [HE29.out]; exact hk.1), hk.2⟩))
              clear HO_0
              have HO_0 := n_
              clear n_
              have n_ := Aside0.mk (Kd.R_mono (ok' := fun k_ => (some k_ ≠ (.slice (some ad7) x0_1.length co18 : Value).ownBlock ∧ some k_ ≠ (.slice A29 y18.length c29 : Value).ownBlock)) HO_5.out (fun k_ hk => ⟨hk.1, (by rw [HE29.out]; exact hk.2)⟩))
              clear HO_5
              have HO_5 := n_
              clear n_
              go_wp2
              repeat (go_quiet (fail); try go_wp2)
              go_roundg kj16
              case measure => have := HK1.out; have := HJ6.out; have := HJ16.out; omega
              case rel => exact ⟨(x0_1), (y18), (x5_16), H', ⟨by have := HK1.out; have := HJ6.out; have := HJ16.out; omega⟩, ⟨by (with_reducible repeat (first | apply Kd.Q_alloc | apply Kd.Q_drewN | apply Kd.Q_drew)); exact HO_0.out⟩, ⟨by (with_reducible repeat (first | apply Kd.Q_alloc | apply Kd.Q_drewN | apply Kd.Q_drew)); exact HO20.out⟩, ⟨by (with_reducible repeat (first | apply Kd.R_alloc | apply Kd.R_drewN | apply Kd.R_drew)); exact HO_5.out⟩, ⟨by repeat (first | (with_reducible first | exact HB.out | apply below_alloc | apply pw_below_drewN | apply below_drew1) | exact HB.out)⟩⟩
             ·
              rw [if_neg c28] at H
              exact absurd H (by simp)
           ·
            rw [if_neg c24] at H
            exact absurd H (by simp)
       ·
        rw [if_neg c14] at H
        exact absurd H (by simp)
      ·
       rw [if_neg c13] at H
       exact absurd H (by simp)
     ·
      replace c12 := Bool.eq_false_iff.mpr c12
      subst c12
      have H1 : (some x5_1) = some r := by rw [if_neg (show ¬ (false = true) by decide)] at H; exact H
      clear H
      have H := H1
      clear H1
      obtain rfl := Option.some.inj H
      go_wp2
      repeat (go_quiet (fail); try go_wp2)
      (try rw [Exit.noGoto_ret])
      go_ret
      exact ⟨_, by first | rfl | (simp [errW_none, errW_some] <;> rfl) | (simp [*, errW_none, errW_some] <;> rfl), by (with_reducible repeat (first | apply Kd.R_alloc | apply Kd.R_drewN | apply Kd.R_drew)); exact Kd.R_mono HO_5.out (fun _ hk => trivial), by repeat (first | (with_reducible first | exact HB.out | apply below_alloc | apply pw_below_drewN | apply below_drew1) | exact HB.out)⟩

end Go.Proofs.Ytconaifcjnpabaa.P
