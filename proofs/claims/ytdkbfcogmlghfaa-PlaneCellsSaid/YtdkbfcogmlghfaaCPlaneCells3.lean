/- Part of the proof of the law PlaneCells: the functions that it reaches, by contract. -/
import Derived.Deep.Slices
import Derived.Lib.Hide
import Derived.Test.YtdkbfcogmlghfaaCPlaneCells0
import Derived.Test.YtdkbfcogmlghfaaCPlaneCells1
import Derived.Test.YtdkbfcogmlghfaaCPlaneCells2
namespace Go.Proofs.Ytdkbfcogmlghfaa.P
open Go.RowKit Go.Proofs.YtdkbfcogmlghfaaW.PrintWords Go.Proofs.YtdkbfcogmlghfaaW.PrintLast Go.Proofs.YtdkbfcogmlghfaaW.PrintMore
set_option linter.unusedVariables false
set_option linter.unusedSimpArgs false
/-! plane.Cells: its contract. -/
theorem cellsRow_mono (k : Nat) (l : List S24) (x : Int) : ∀ (ys : List Int) (seen : List (List UInt8)) (out : List Int), LeO (cellsRow k l x ys seen out) (cellsRow (k + 1) l x ys seen out)
  | [], seen, out => fun r h => h
  | y :: ys, seen, out => fun r h => by
    simp only [cellsRow] at h ⊢
    obtain ⟨kd, h1, h2⟩ := Option.bind_eq_some_iff.mp h
    rw [q8z.mono _ _ k kd h1, Option.bind_some]
    by_cases hs : kd.size ≤ 35184372088832
    · rw [if_pos hs] at h2 ⊢
      by_cases hm : decide (kd.data.toList ∈ seen) = true
      · rw [if_pos hm] at h2 ⊢
        exact cellsRow_mono k l x ys seen out r h2
      · rw [if_neg hm] at h2 ⊢
        by_cases ho : out.length < 35184372088832
        · rw [if_pos ho] at h2 ⊢
          exact cellsRow_mono k l x ys _ _ r h2
        · rw [if_neg ho] at h2
          exact absurd h2 (by simp)
    · rw [if_neg hs] at h2
      exact absurd h2 (by simp)
theorem cellsAll_mono (k : Nat) (l : List S24) (ys : List Int) : ∀ (xs : List Int) (seen : List (List UInt8)) (out : List Int), LeO (cellsAll k l ys xs seen out) (cellsAll (k + 1) l ys xs seen out)
  | [], seen, out => fun r h => h
  | x :: xs, seen, out => fun r h => by
    simp only [cellsAll] at h ⊢
    obtain ⟨yc, h1, h2⟩ := Option.bind_eq_some_iff.mp h
    obtain ⟨yy, h3, h4⟩ := Option.bind_eq_some_iff.mp h2
    obtain ⟨t, h5, h6⟩ := Option.bind_eq_some_iff.mp h4
    rw [h1, Option.bind_some, h3, Option.bind_some, cellsRow_mono k l x yy seen out t h5, Option.bind_some]
    exact cellsAll_mono k l ys xs _ _ r h6
def plane_Cells.f (k : Nat) (l0 : List (S24)) : Option (List Int × Int) :=
  if 64 < (l0.length : Int) then some ([], 6) else (cells_half.f k l0).bind fun t => (cellsTail k l0 t.1 t.2).bind fun r => some (r, 0)
theorem plane_Cells.mono : ∀ a0 k, LeO (plane_Cells.f k a0) (plane_Cells.f (k + 1) a0) := fun a0 k r h => by
  unfold plane_Cells.f at h ⊢
  by_cases hc : 64 < (a0.length : Int)
  · rw [if_pos hc] at h ⊢
    exact h
  · rw [if_neg hc] at h ⊢
    obtain ⟨t, h1, h2⟩ := Option.bind_eq_some_iff.mp h
    obtain ⟨r0, h3, h4⟩ := Option.bind_eq_some_iff.mp h2
    rw [cells_half.mono _ k t h1, Option.bind_some]
    unfold cellsTail at h3 ⊢
    obtain ⟨cx, h5, h6⟩ := Option.bind_eq_some_iff.mp h3
    rw [h5, Option.bind_some, cellsAll_mono k a0 t.2 cx [] [] r0 h6, Option.bind_some]
    exact h4
theorem plane_Cells.calls (k : Nat) (A0 : Option Addr) (c0 : Nat) (l0 : List (S24)) (r1 : List Int) (r2 : Int) (w : World) (hr0 : Kd.C k24 w A0 l0.length l0) (hc0 : l0.length ≤ c0) (h : plane_Cells.f k l0 = some (r1, r2)) :
    Calls Try.prog 12 #[.slice A0 l0.length c0] w fun e w' => ∃ v0_ : Value, e = .returned (.tuple #[v0_, .int .i64 r2]) ∧ Kd.R (Kd.int .u32) 22 w' w.heap.size (fun _ => True) v0_ r1 ∧ Below w.heap.size w w' := by
  unfold plane_Cells.f at h
  by_cases hc : 64 < (l0.length : Int)
  · rw [if_pos hc] at h
    have h' := Option.some.inj h
    simp only [Prod.mk.injEq] at h'
    obtain ⟨rfl, rfl⟩ := h'
    clear h hr0
    have hcb : decide (64 < (l0.length : Int)) = true := decide_eq_true hc
    go_enter Try.func12, Try.ntmps12
    go_wp2
    go_ret2
    exact ⟨_, rfl, Kd.R_nil _ _ _ _ _, Below.refl _ _⟩
  · rw [if_neg hc] at h
    obtain ⟨t, h1, h2⟩ := Option.bind_eq_some_iff.mp h
    obtain ⟨r0, h3, h4⟩ := Option.bind_eq_some_iff.mp h2
    have h' := Option.some.inj h4
    simp only [Prod.mk.injEq] at h'
    obtain ⟨rfl, rfl⟩ := h'
    exact cells_walk k A0 c0 l0 t.1 t.2 r0 w hr0 hc0 hc h1 h3
end Go.Proofs.Ytdkbfcogmlghfaa.P

namespace Go.Proofs.Ytdkbfcogmlghfaa.P
open Go.RowKit Go.Proofs.YtdkbfcogmlghfaaW.PrintWords Go.Proofs.YtdkbfcogmlghfaaW.PrintLast Go.Proofs.YtdkbfcogmlghfaaW.PrintMore
set_option linter.unusedVariables false
set_option linter.unusedSimpArgs false
/-! What lies in both of two boxes. -/
theorem run_maxF (a b : Nat) (ha : a < 65536) (hb : b < 65536) (ts : Array TypeId) (t : TypeId) (w : World) : (Builtin.max_ ts t #[.float .f64 (F a), .float .f64 (F b)]).run Try.prog w = .ok (.float .f64 (F (max a b))) w := by
  have h : FloatKind.f64.format.order (F a) (F b) = some (compare a b) := order_F a b ha hb
  have k : compare a b = if a < b then .lt else if a = b then .eq else .gt := rfl
  simp only [Builtin.max_, List.foldlM, Builtin.max2]
  rw [h, k]
  by_cases h1 : a < b
  · rw [if_pos h1, Nat.max_eq_right (by omega)]; simp
  · by_cases h2 : a = b
    · subst h2
      rw [if_neg h1, if_pos rfl, Nat.max_self]
      simp
    · rw [if_neg h1, if_neg h2, Nat.max_eq_left (by omega)]; simp
theorem run_minF (a b : Nat) (ha : a < 65536) (hb : b < 65536) (ts : Array TypeId) (t : TypeId) (w : World) : (Builtin.min_ ts t #[.float .f64 (F a), .float .f64 (F b)]).run Try.prog w = .ok (.float .f64 (F (min a b))) w := by
  have h : FloatKind.f64.format.order (F a) (F b) = some (compare a b) := order_F a b ha hb
  have k : compare a b = if a < b then .lt else if a = b then .eq else .gt := rfl
  simp only [Builtin.min_, List.foldlM, Builtin.min2]
  rw [h, k]
  by_cases h1 : a < b
  · rw [if_pos h1, Nat.min_eq_left (by omega)]; simp
  · by_cases h2 : a = b
    · subst h2
      rw [if_neg h1, if_pos rfl, Nat.min_self]
      simp
    · rw [if_neg h1, if_neg h2, Nat.min_eq_right (by omega)]; simp
theorem community_calls (a b : Nat) (ha : a < 65536) (hb : b < 65536) (w : World) : Calls Try.prog 21 #[.complex .f64 (F a) (F b)] w fun e w' => e = .returned (.int .u32 ((65536 * a + b : Nat) : Int)) ∧ w' = w := by
  have c : ∀ (n : Nat), n < 65536 → ∀ w, (convert 44 22 (.float .f64 (F n))).run Try.prog w = .ok (.int .u32 (n : Int)) w := fun n hn w =>
    run_convert_float_int w 44 22 .f64 .u32 (F n) (n : Int) (by rw [Try.underlying44]; rfl) Try.underlying22 (by
      have ht : (FloatKind.f64.decode (F n)).toInt .zero = some (n : Int) := toInt_F n hn
      unfold floatToIntVal
      rw [ht]
      have m1 : IntKind.min .u32 = 0 := by decide
      have m2 : IntKind.max .u32 = 4294967295 := by decide
      simp only [m1, m2]
      rw [if_pos (by omega)])
  have c1 := c a ha
  have c2 := c b hb
  clear c
  generalize F a = fa at c1 ⊢
  generalize F b = fb at c2 ⊢
  go_enter Try.func21, Try.ntmps21
  go_wp2
  go_ret
  refine ⟨?_, rfl⟩
  show Ending.returned (Value.int .u32 _) = _
  congr 2
  simp
  omega
/-- What community says of these two floats. -/
def CC (fr fi c : Nat) : Prop := ∀ w : World, Calls Try.prog 21 #[.complex .f64 fr fi] w fun e w' => e = .returned (.int .u32 (c : Int)) ∧ w' = w
theorem CC.use {fr fi c : Nat} (h : CC fr fi c) (w : World) : Calls Try.prog 21 #[.complex .f64 fr fi] w fun e w' => e = .returned (.int .u32 (c : Int)) ∧ w' = w := h w
/-- The box that lies in both, if one does. -/
def meetN (al ah bl bh : Nat) : Int × Int × Bool :=
  if (decide (max (al / 65536) (bl / 65536) ≤ min (ah / 65536) (bh / 65536)) && decide (max (al % 65536) (bl % 65536) ≤ min (ah % 65536) (bh % 65536))) = true then (((65536 * max (al / 65536) (bl / 65536) + max (al % 65536) (bl % 65536) : Nat) : Int), ((65536 * min (ah / 65536) (bh / 65536) + min (ah % 65536) (bh % 65536) : Nat) : Int), true) else (0, 0, false)
set_option maxHeartbeats 8000000 in
set_option maxRecDepth 100000 in
theorem meet_nat (al ah bl bh : Nat) (h1 : al < 4294967296) (h2 : ah < 4294967296) (h3 : bl < 4294967296) (h4 : bh < 4294967296) (w : World) :
    Calls Try.prog 9 #[.agg #[.int .u32 (al : Int), .int .u32 (ah : Int)], .agg #[.int .u32 (bl : Int), .int .u32 (bh : Int)]] w fun e w' => e = .returned (.tuple #[.agg #[.int .u32 (meetN al ah bl bh).1, .int .u32 (meetN al ah bl bh).2.1], .bool (meetN al ah bl bh).2.2]) ∧ Below w.heap.size w w' := by
  have hu24 := Try.underlying24
  have HB := Aside0.mk (Below.refl w.heap.size w)
  have HP := Go.Lib.hid (fun (m : Nat) (hm : m < 4294967296) (w : World) => point_calls m hm w)
  have x1 := run_maxF (al / 65536) (bl / 65536) (by omega) (by omega)
  have x2 := run_maxF (al % 65536) (bl % 65536) (by omega) (by omega)
  have x3 := run_minF (ah / 65536) (bh / 65536) (by omega) (by omega)
  have x4 := run_minF (ah % 65536) (bh % 65536) (by omega) (by omega)
  obtain ⟨p1, e1⟩ : ∃ p, p = max (al / 65536) (bl / 65536) := ⟨_, rfl⟩
  obtain ⟨p2, e2⟩ : ∃ p, p = max (al % 65536) (bl % 65536) := ⟨_, rfl⟩
  obtain ⟨p3, e3⟩ : ∃ p, p = min (ah / 65536) (bh / 65536) := ⟨_, rfl⟩
  obtain ⟨p4, e4⟩ : ∃ p, p = min (ah % 65536) (bh % 65536) := ⟨_, rfl⟩
  have l1 : p1 < 65536 := by omega
  have l2 : p2 < 65536 := by omega
  have l3 : p3 < 65536 := by omega
  have l4 : p4 < 65536 := by omega
  rw [← e1] at x1
  rw [← e2] at x2
  rw [← e3] at x3
  rw [← e4] at x4
  have hw : withinN p1 p2 p1 p2 p3 p4 = (decide (p1 ≤ p3) && decide (p2 ≤ p4)) := by unfold withinN; simp
  have y1 := fun (w : World) => within_calls p1 p2 p1 p2 p3 p4 l1 l2 l1 l2 l3 l4 w
  have y2 := fun (w : World) => community_calls p1 p2 l1 l2 w
  have y3 := fun (w : World) => community_calls p3 p4 l3 l4 w
  obtain ⟨c1, hc1⟩ : ∃ c, c = 65536 * p1 + p2 := ⟨_, rfl⟩
  obtain ⟨c2, hc2⟩ : ∃ c, c = 65536 * p3 + p4 := ⟨_, rfl⟩
  rw [← hc1] at y2
  rw [← hc2] at y3
  generalize F p1 = f1 at x1 y1 y2
  generalize F p2 = f2 at x2 y1 y2
  generalize F p3 = f3 at x3 y1 y3
  generalize F p4 = f4 at x4 y1 y3
  have HW := Go.Lib.hid y1
  have HC1 : CC f1 f2 c1 := y2
  have HC2 : CC f3 f4 c2 := y3
  clear y1 y2 y3
  unfold meetN
  rw [← e1, ← e2, ← e3, ← e4, ← hc1, ← hc2]
  clear hc1 hc2
  obtain ⟨q, hq⟩ : ∃ q, q = (decide (p1 ≤ p3) && decide (p2 ≤ p4)) := ⟨_, rfl⟩
  rw [← hq] at hw ⊢
  clear e1 e2 e3 e4 l1 l2 l3 l4 hq
  go_enter Try.func9, Try.ntmps9
  go_wp2_with (first | ((with_reducible refine gate_dst (N := 2) rfl ?_); refine box_event ?hg (N := 2) ?hd (cs := #[.int .u32 (al : Int), .int .u32 (ah : Int)]) (t := 24) ?hr ?_; (case hd => rfl); (case hg => rfl); (case hr => first | (go_simp; done) | (go_simp; rfl)); intro gb1 hg w27 hbox hb; have n0_ := Aside0.mk (below_step (by repeat (first | (with_reducible first | exact HB.out | apply below_alloc | apply pw_below_drewN | apply below_drew1) | exact HB.out)) hb); have n1_ := Aside0.mk (hbox); have n2_ := Aside0.mk ((by rw [hg]; exact (below_size (by repeat (first | (with_reducible first | exact HB.out | apply below_alloc | apply pw_below_drewN | apply below_drew1) | exact HB.out))) : w.heap.size ≤ gb1)); have n3_ := Aside0.mk ((by rw [hg]; exact (below_size (by repeat (first | (with_reducible first | exact HB.out | apply below_alloc | apply pw_below_drewN | apply below_drew1) | exact HB.out))) : w.heap.size ≤ gb1)); clear HB; have HB := n0_; have BK1 := n1_; have GW1 := n2_; have GE1 := n3_; clear n0_ n1_ n2_ n3_; clear hb hbox hg) | ((with_reducible refine gate_dst (N := 3) rfl ?_); refine box_event ?hg (N := 3) ?hd (cs := #[.int .u32 (bl : Int), .int .u32 (bh : Int)]) (t := 24) ?hr ?_; (case hd => rfl); (case hg => rfl); (case hr => first | (go_simp; done) | (go_simp; rfl)); intro gb2 hg w28 hbox hb; have n0_ := Aside0.mk (blk_below (g := gb1) (o := .cells #[.int .u32 (al : Int), .int .u32 (ah : Int)] 24 (0, 0)) (by (with_reducible repeat (first | refine blk_drewN ?_ _ | refine blk_drew ?_ | refine blk_alloc ?_ _)); exact BK1.out) hb); have n1_ := Aside0.mk (below_step (by repeat (first | (with_reducible first | exact HB.out | apply below_alloc | apply pw_below_drewN | apply below_drew1 | refine below_set ?_ GE1.out) | exact HB.out)) hb); have n2_ := Aside0.mk (hbox); have n3_ := Aside0.mk ((by rw [hg]; exact (below_size (by repeat (first | (with_reducible first | exact HB.out | apply below_alloc | apply pw_below_drewN | apply below_drew1 | refine below_set ?_ GE1.out) | exact HB.out))) : w.heap.size ≤ gb2)); have n4_ := Aside0.mk ((by rw [hg]; exact (below_size (by repeat (first | (with_reducible first | exact HB.out | apply below_alloc | apply pw_below_drewN | apply below_drew1 | refine below_set ?_ GE1.out) | exact HB.out))) : w.heap.size ≤ gb2)); have n5_ := Aside0.mk ((by rw [hg]; exact Nat.ne_of_lt (blk_lt (g := gb1) (o := .cells #[.int .u32 (al : Int), .int .u32 (ah : Int)] 24 (0, 0)) (by (with_reducible repeat (first | refine blk_drewN ?_ _ | refine blk_drew ?_ | refine blk_alloc ?_ _)); exact BK1.out)) : gb1 ≠ gb2)); have n6_ := Aside0.mk ((by rw [hg]; exact Nat.ne_of_gt (blk_lt (g := gb1) (o := .cells #[.int .u32 (al : Int), .int .u32 (ah : Int)] 24 (0, 0)) (by (with_reducible repeat (first | refine blk_drewN ?_ _ | refine blk_drew ?_ | refine blk_alloc ?_ _)); exact BK1.out)) : gb2 ≠ gb1)); clear BK1; clear HB; have BK1 := n0_; have HB := n1_; have BK2 := n2_; have GW2 := n3_; have GE2 := n4_; have NB1_2 := n5_; have NB2_1 := n6_; clear n0_ n1_ n2_ n3_ n4_ n5_ n6_; clear hb hbox hg) | ((with_reducible refine gate_dst (N := 4) rfl ?_); refine box_event ?hg (N := 4) ?hd (cs := #[.int .u32 0, .int .u32 0]) (t := 24) ?hr ?_; (case hd => rfl); (case hg => rfl); (case hr => first | (go_simp; done) | (go_simp; rfl)); intro gb3 hg w29 hbox hb; have n0_ := Aside0.mk (blk_below (g := gb1) (o := .cells #[.int .u32 (al : Int), .int .u32 (ah : Int)] 24 (0, 0)) (by (with_reducible repeat (first | refine blk_drewN ?_ _ | refine blk_drew ?_ | refine blk_alloc ?_ _)); exact BK1.out) hb); have n1_ := Aside0.mk (blk_below (g := gb2) (o := .cells #[.int .u32 (bl : Int), .int .u32 (bh : Int)] 24 (0, 0)) (by (with_reducible repeat (first | refine blk_drewN ?_ _ | refine blk_drew ?_ | refine blk_alloc ?_ _)); exact BK2.out) hb); have n2_ := Aside0.mk (below_step (by repeat (first | (with_reducible first | exact HB.out | apply below_alloc | apply pw_below_drewN | apply below_drew1 | refine below_set ?_ GE1.out | refine below_set ?_ GE2.out) | exact HB.out)) hb); have n3_ := Aside0.mk (hbox); have n4_ := Aside0.mk ((by rw [hg]; exact (below_size (by repeat (first | (with_reducible first | exact HB.out | apply below_alloc | apply pw_below_drewN | apply below_drew1 | refine below_set ?_ GE1.out | refine below_set ?_ GE2.out) | exact HB.out))) : w.heap.size ≤ gb3)); have n5_ := Aside0.mk ((by rw [hg]; exact (below_size (by repeat (first | (with_reducible first | exact HB.out | apply below_alloc | apply pw_below_drewN | apply below_drew1 | refine below_set ?_ GE1.out | refine below_set ?_ GE2.out) | exact HB.out))) : w.heap.size ≤ gb3)); have n6_ := Aside0.mk ((by rw [hg]; exact Nat.ne_of_lt (blk_lt (g := gb1) (o := .cells #[.int .u32 (al : Int), .int .u32 (ah : Int)] 24 (0, 0)) (by (with_reducible repeat (first | refine blk_drewN ?_ _ | refine blk_drew ?_ | refine blk_alloc ?_ _)); exact BK1.out)) : gb1 ≠ gb3)); have n7_ := Aside0.mk ((by rw [hg]; exact Nat.ne_of_gt (blk_lt (g := gb1) (o := .cells #[.int .u32 (al : Int), .int .u32 (ah : Int)] 24 (0, 0)) (by (with_reducible repeat (first | refine blk_drewN ?_ _ | refine blk_drew ?_ | refine blk_alloc ?_ _)); exact BK1.out)) : gb3 ≠ gb1)); have n8_ := Aside0.mk ((by rw [hg]; exact Nat.ne_of_lt (blk_lt (g := gb2) (o := .cells #[.int .u32 (bl : Int), .int .u32 (bh : Int)] 24 (0, 0)) (by (with_reducible repeat (first | refine blk_drewN ?_ _ | refine blk_drew ?_ | refine blk_alloc ?_ _)); exact BK2.out)) : gb2 ≠ gb3)); have n9_ := Aside0.mk ((by rw [hg]; exact Nat.ne_of_gt (blk_lt (g := gb2) (o := .cells #[.int .u32 (bl : Int), .int .u32 (bh : Int)] 24 (0, 0)) (by (with_reducible repeat (first | refine blk_drewN ?_ _ | refine blk_drew ?_ | refine blk_alloc ?_ _)); exact BK2.out)) : gb3 ≠ gb2)); clear BK1; clear BK2; clear HB; have BK1 := n0_; have BK2 := n1_; have HB := n2_; have BK3 := n3_; have GW3 := n4_; have GE3 := n5_; have NB1_3 := n6_; have NB3_1 := n7_; have NB2_3 := n8_; have NB3_2 := n9_; clear n0_ n1_ n2_ n3_ n4_ n5_ n6_ n7_ n8_ n9_; clear hb hbox hg; have hnb30 := NB1_2.out; have hnc30 := NB2_1.out; have hnb31 := NB1_3.out; have hnc31 := NB3_1.out; have hcz32_0 : w29.cell? ⟨gb1, 0, none⟩ = some (.int .u32 (al : Int)) := (blk_cell BK1.out 0).trans rfl; have hcz32_1 : w29.cell? ⟨gb1, 1, none⟩ = some (.int .u32 (ah : Int)) := (blk_cell BK1.out 1).trans rfl; have hfz32_0 := blk_frozen BK1.out 0; have hfz32_1 := blk_frozen BK1.out 1; have hnb33 := NB2_3.out; have hnc33 := NB3_2.out; have hcz34_0 : w29.cell? ⟨gb2, 0, none⟩ = some (.int .u32 (bl : Int)) := (blk_cell BK2.out 0).trans rfl; have hcz34_1 : w29.cell? ⟨gb2, 1, none⟩ = some (.int .u32 (bh : Int)) := (blk_cell BK2.out 1).trans rfl; have hfz34_0 := blk_frozen BK2.out 0; have hfz34_1 := blk_frozen BK2.out 1; have hcz35_0 : w29.cell? ⟨gb3, 0, none⟩ = some (.int .u32 0) := (blk_cell BK3.out 0).trans rfl; have hcz35_1 : w29.cell? ⟨gb3, 1, none⟩ = some (.int .u32 0) := (blk_cell BK3.out 1).trans rfl; have hfz35_0 := blk_frozen BK3.out 0; have hfz35_1 := blk_frozen BK3.out 1))
  go_big_quiet (first | (go_at_call 19; refine Calls.quiet_of_same (HP.out _ (by assumption) _)))
  go_upto_if 50 with (go_at_call 20; refine (HW.out _).mono ?_; rw [hw]; rintro e w' ⟨rfl, rfl⟩)
  cases q with
  | false =>
    go_wp2
    refine bodyPost_ret (results_ct rfl _ _ gb3 24 #[.int .u32 0, .int .u32 0] (0, 0) _ rfl (by (with_reducible repeat (first | refine blk_drewN ?_ _ | refine blk_drew ?_ | refine blk_alloc ?_ _)); refine blk_put (cs := #[.int .u32 0, .int .u32 0]) ?_ 1 _ rfl; (with_reducible repeat (first | refine blk_drewN ?_ _ | refine blk_drew ?_ | refine blk_alloc ?_ _)); refine blk_put (cs := #[.int .u32 0, .int .u32 0]) ?_ 0 _ rfl; (with_reducible repeat (first | refine blk_drewN ?_ _ | refine blk_drew ?_ | refine blk_alloc ?_ _)); exact BK3.out) Try.underlying24 rfl (by kernel_rfl)) rfl ?_
    exact ⟨rfl, by repeat (first | (with_reducible first | exact HB.out | apply below_alloc | apply pw_below_drewN | apply below_drew1 | refine below_set ?_ GE1.out | refine below_set ?_ GE2.out | refine below_set ?_ GE3.out) | exact HB.out)⟩
  | true =>
    go_wp2_with (first | (go_at_call 21; refine (CC.use (by with_reducible assumption) _).mono ?_; rintro e w' ⟨rfl, rfl⟩))
    refine bodyPost_ret (results_ct rfl _ _ gb3 24 #[.int .u32 (c1 : Int), .int .u32 (c2 : Int)] (0, 0) _ rfl (by (with_reducible repeat (first | refine blk_drewN ?_ _ | refine blk_drew ?_ | refine blk_alloc ?_ _)); refine blk_put (cs := #[.int .u32 (c1 : Int), .int .u32 0]) ?_ 1 _ rfl; (with_reducible repeat (first | refine blk_drewN ?_ _ | refine blk_drew ?_ | refine blk_alloc ?_ _)); refine blk_put (cs := #[.int .u32 0, .int .u32 0]) ?_ 0 _ rfl; (with_reducible repeat (first | refine blk_drewN ?_ _ | refine blk_drew ?_ | refine blk_alloc ?_ _)); exact BK3.out) Try.underlying24 rfl (by kernel_rfl)) rfl ?_
    exact ⟨rfl, by repeat (first | (with_reducible first | exact HB.out | apply below_alloc | apply pw_below_drewN | apply below_drew1 | refine below_set ?_ GE1.out | refine below_set ?_ GE2.out | refine below_set ?_ GE3.out) | exact HB.out)⟩
end Go.Proofs.Ytdkbfcogmlghfaa.P

namespace Go.Proofs.Ytdkbfcogmlghfaa.P
open Go.RowKit Go.Proofs.YtdkbfcogmlghfaaW.PrintWords Go.Proofs.YtdkbfcogmlghfaaW.PrintLast Go.Proofs.YtdkbfcogmlghfaaW.PrintMore
set_option linter.unusedVariables false
/-! plane.Meet: its contract. -/
def plane_Meet.f (a0_0 : Int) (a0_1 : Int) (a1_0 : Int) (a1_1 : Int) : Option (Int × Int × Bool) := if (u32B a0_0 && (u32B a0_1 && (u32B a1_0 && u32B a1_1))) = true then some (meetN a0_0.toNat a0_1.toNat a1_0.toNat a1_1.toNat) else none
theorem plane_Meet.calls (a0_0 : Int) (a0_1 : Int) (a1_0 : Int) (a1_1 : Int) (r1 : Int) (r2 : Int) (r3 : Bool) (w : World) (h : plane_Meet.f a0_0 a0_1 a1_0 a1_1 = some (r1, r2, r3)) :
    Calls Try.prog 9 #[.agg #[.int .u32 a0_0, .int .u32 a0_1], .agg #[.int .u32 a1_0, .int .u32 a1_1]] w fun e w' => e = .returned (.tuple #[.agg #[.int .u32 r1, .int .u32 r2], .bool r3]) ∧ Below w.heap.size w w' := by
  unfold plane_Meet.f at h
  by_cases hg : (u32B a0_0 && (u32B a0_1 && (u32B a1_0 && u32B a1_1))) = true
  · rw [if_pos hg] at h
    simp only [Bool.and_eq_true] at hg
    obtain ⟨al, rfl, h1⟩ := u32B_nat hg.1
    obtain ⟨ah, rfl, h2⟩ := u32B_nat hg.2.1
    obtain ⟨bl, rfl, h3⟩ := u32B_nat hg.2.2.1
    obtain ⟨bh, rfl, h4⟩ := u32B_nat hg.2.2.2
    have hr := Option.some.inj h
    simp only [Int.toNat_natCast] at hr
    have hc := meet_nat al ah bl bh h1 h2 h3 h4 w
    rw [hr] at hc
    exact hc
  · rw [if_neg hg] at h
    exact absurd h (by simp)
end Go.Proofs.Ytdkbfcogmlghfaa.P

namespace Go.Proofs.Ytdkbfcogmlghfaa.P
open Go.RowKit Go.Proofs.YtdkbfcogmlghfaaW.PrintWords Go.Proofs.YtdkbfcogmlghfaaW.PrintLast Go.Proofs.YtdkbfcogmlghfaaW.PrintMore
attribute [local go_sem] max2_int min2_int max_two min_two max_three min_three max_four min_four
set_option linter.unusedVariables false
set_option linter.unusedSimpArgs false

attribute [local go_sem high] eqA24
/-! ### dragomanlaw02_alive: function 8 -/
def q9z.f (k : Nat)  : Option (Bool) := (q7z.f 1 5).bind fun t1 => ((q7z.f 9 9).bind fun t2 => ((q7z.f 3 0).bind fun t3 => ((q7z.f 20 6).bind fun t4 => ((plane_Meet.f t1 t2 t3 t4).bind fun bt5 => ((q7z.f 1 1).bind fun t9 => ((q7z.f 1 2).bind fun t10 => ((plane_Cells.f k (([(⟨t9, t10⟩ : S24)] : List (S24)))).bind fun bt14 => ((q7z.f 65000 0).bind fun t18 => ((q7z.f 65000 65535).bind fun t19 => ((q7z.f 65000 7).bind fun t20 => ((plane_In.f t18 t19 t20).bind fun t21 => (if t21 = true then (if bt5.2.2 = true then ((q7z.f 3 5).bind fun t22 => ((q7z.f 9 6).bind fun t23 => (if (bt5.1 == t22 && (bt5.2.1 == t23)) = true then (if bt14.2 = 0 then ((q7z.f 1 1).bind fun t24 => ((q6z.f k bt14.1 (([0, t24] : List Int))).bind fun t28 => (some t28))) else (some false)) else (some false)))) else (some false)) else (some false)))))))))))))
theorem q9z.mono : ∀ k, LeO (q9z.f k ) (q9z.f (k + 1) ) := by
 intro  k
 unfold q9z.f
 repeat' first
   | (with_reducible exact q6z.mono _ _ _)
   | (with_reducible exact plane_Cells.mono _ _)
   | (with_reducible exact LeO.refl _)
   | (with_reducible exact LeO.none _)
   | (with_reducible refine LeO.ite ?_ ?_)
   | (with_reducible refine LeO.bind ?_ (fun _ => ?_))
   | exact q6z.mono _ _ _
   | exact plane_Cells.mono _ _
   | exact LeO.none _
   | refine LeO.ite ?_ ?_
   | refine LeO.bind ?_ (fun _ => ?_)
def q9z.T3 : Bool × List (List Nat × List Nat) := (true, [([], []), ([0], []), ([0, 1], [0, 1]), ([1], []), ([2, 3, 3], [2, 3]), ([4, 4], [4]), ([5], [5]), ([5, 6], [5, 6]), ([7, 5], [7]), ([8], [8]), ([8, 8], [8]), ([10, 8], [8]), ([10, 11, 8], [8, 10, 11]), ([9, 12, 8], [8, 9, 12]), ([8, 13], [8, 13]), ([14, 11], [14]), ([15], [15]), ([16, 15], [15, 16]), ([15, 17], [15, 17]), ([18, 15], [18]), ([19], [19]), ([19, 19], [19]), ([21, 19], [19, 21]), ([20, 22, 21, 19], [19, 20, 22]), ([19, 23], [19, 23]), ([24, 23, 0, 1, 2, 3, 4, 5, 6, 7, 8, 9, 10, 11, 12, 13, 14, 15, 16, 17, 18, 19, 20, 21, 22, 23, 24], [24])])
def q9z.B3 : List Nat := [0, 1, 3, 3, 15, 31, 63, 127, 255, 511, 511, 1535, 3583, 8191, 16383, 32767, 65535, 131071, 262143, 524287, 1048575, 1048575, 3145727, 8388607, 16777215, 33554431]
theorem q9z.tab3 : rtab .any (opsOf Try.f8 3) = q9z.T3 := by kernel_rfl
theorem q9z.bits3 : waitsOk q9z.T3.2 q9z.B3 = true := by kernel_rfl
set_option maxHeartbeats 8000000 in
set_option maxRecDepth 100000 in
theorem q9z.calls (k : Nat)  (r : Bool) (w : World) (h : q9z.f k  = some r) :
  Calls Try.prog 8 #[] w fun e w' => e = .returned (.bool r) ∧ Below w.heap.size w w' := by
 have hu24 := Try.underlying24
 have HB := Aside0.mk (Below.refl w.heap.size w)
 have H : ((q7z.f 1 5).bind fun t1 => ((q7z.f 9 9).bind fun t2 => ((q7z.f 3 0).bind fun t3 => ((q7z.f 20 6).bind fun t4 => ((plane_Meet.f t1 t2 t3 t4).bind fun bt5 => ((q7z.f 1 1).bind fun t9 => ((q7z.f 1 2).bind fun t10 => ((plane_Cells.f k (([(⟨t9, t10⟩ : S24)] : List (S24)))).bind fun bt14 => ((q7z.f 65000 0).bind fun t18 => ((q7z.f 65000 65535).bind fun t19 => ((q7z.f 65000 7).bind fun t20 => ((plane_In.f t18 t19 t20).bind fun t21 => (if t21 = true then (if bt5.2.2 = true then ((q7z.f 3 5).bind fun t22 => ((q7z.f 9 6).bind fun t23 => (if (bt5.1 == t22 && (bt5.2.1 == t23)) = true then (if bt14.2 = 0 then ((q7z.f 1 1).bind fun t24 => ((q6z.f k bt14.1 (([0, t24] : List Int))).bind fun t28 => (some t28))) else (some false)) else (some false)))) else (some false)) else (some false)))))))))))))) = some r := h
 clear h
 replace H := Option.bind_eq_some_iff.mp H
 obtain ⟨t1, A10, H⟩ := H
 replace H : ((q7z.f 9 9).bind fun t2 => ((q7z.f 3 0).bind fun t3 => ((q7z.f 20 6).bind fun t4 => ((plane_Meet.f t1 t2 t3 t4).bind fun bt5 => ((q7z.f 1 1).bind fun t9 => ((q7z.f 1 2).bind fun t10 => ((plane_Cells.f k (([(⟨t9, t10⟩ : S24)] : List (S24)))).bind fun bt14 => ((q7z.f 65000 0).bind fun t18 => ((q7z.f 65000 65535).bind fun t19 => ((q7z.f 65000 7).bind fun t20 => ((plane_In.f t18 t19 t20).bind fun t21 => (if t21 = true then (if bt5.2.2 = true then ((q7z.f 3 5).bind fun t22 => ((q7z.f 9 6).bind fun t23 => (if (bt5.1 == t22 && (bt5.2.1 == t23)) = true then (if bt14.2 = 0 then ((q7z.f 1 1).bind fun t24 => ((q6z.f k bt14.1 (([0, t24] : List Int))).bind fun t28 => (some t28))) else (some false)) else (some false)))) else (some false)) else (some false))))))))))))) = some r := H
 have A1 := Aside0.mk A10
 clear A10
 replace H := Option.bind_eq_some_iff.mp H
 obtain ⟨t2, A20, H⟩ := H
 replace H : ((q7z.f 3 0).bind fun t3 => ((q7z.f 20 6).bind fun t4 => ((plane_Meet.f t1 t2 t3 t4).bind fun bt5 => ((q7z.f 1 1).bind fun t9 => ((q7z.f 1 2).bind fun t10 => ((plane_Cells.f k (([(⟨t9, t10⟩ : S24)] : List (S24)))).bind fun bt14 => ((q7z.f 65000 0).bind fun t18 => ((q7z.f 65000 65535).bind fun t19 => ((q7z.f 65000 7).bind fun t20 => ((plane_In.f t18 t19 t20).bind fun t21 => (if t21 = true then (if bt5.2.2 = true then ((q7z.f 3 5).bind fun t22 => ((q7z.f 9 6).bind fun t23 => (if (bt5.1 == t22 && (bt5.2.1 == t23)) = true then (if bt14.2 = 0 then ((q7z.f 1 1).bind fun t24 => ((q6z.f k bt14.1 (([0, t24] : List Int))).bind fun t28 => (some t28))) else (some false)) else (some false)))) else (some false)) else (some false)))))))))))) = some r := H
 have A2 := Aside0.mk A20
 clear A20
 replace H := Option.bind_eq_some_iff.mp H
 obtain ⟨t3, A30, H⟩ := H
 replace H : ((q7z.f 20 6).bind fun t4 => ((plane_Meet.f t1 t2 t3 t4).bind fun bt5 => ((q7z.f 1 1).bind fun t9 => ((q7z.f 1 2).bind fun t10 => ((plane_Cells.f k (([(⟨t9, t10⟩ : S24)] : List (S24)))).bind fun bt14 => ((q7z.f 65000 0).bind fun t18 => ((q7z.f 65000 65535).bind fun t19 => ((q7z.f 65000 7).bind fun t20 => ((plane_In.f t18 t19 t20).bind fun t21 => (if t21 = true then (if bt5.2.2 = true then ((q7z.f 3 5).bind fun t22 => ((q7z.f 9 6).bind fun t23 => (if (bt5.1 == t22 && (bt5.2.1 == t23)) = true then (if bt14.2 = 0 then ((q7z.f 1 1).bind fun t24 => ((q6z.f k bt14.1 (([0, t24] : List Int))).bind fun t28 => (some t28))) else (some false)) else (some false)))) else (some false)) else (some false))))))))))) = some r := H
 have A3 := Aside0.mk A30
 clear A30
 replace H := Option.bind_eq_some_iff.mp H
 obtain ⟨t4, A40, H⟩ := H
 replace H : ((plane_Meet.f t1 t2 t3 t4).bind fun bt5 => ((q7z.f 1 1).bind fun t9 => ((q7z.f 1 2).bind fun t10 => ((plane_Cells.f k (([(⟨t9, t10⟩ : S24)] : List (S24)))).bind fun bt14 => ((q7z.f 65000 0).bind fun t18 => ((q7z.f 65000 65535).bind fun t19 => ((q7z.f 65000 7).bind fun t20 => ((plane_In.f t18 t19 t20).bind fun t21 => (if t21 = true then (if bt5.2.2 = true then ((q7z.f 3 5).bind fun t22 => ((q7z.f 9 6).bind fun t23 => (if (bt5.1 == t22 && (bt5.2.1 == t23)) = true then (if bt14.2 = 0 then ((q7z.f 1 1).bind fun t24 => ((q6z.f k bt14.1 (([0, t24] : List Int))).bind fun t28 => (some t28))) else (some false)) else (some false)))) else (some false)) else (some false)))))))))) = some r := H
 have A4 := Aside0.mk A40
 clear A40
 replace H := Option.bind_eq_some_iff.mp H
 obtain ⟨⟨t5, t6, t7⟩, A50, H⟩ := H
 replace H : ((q7z.f 1 1).bind fun t9 => ((q7z.f 1 2).bind fun t10 => ((plane_Cells.f k (([(⟨t9, t10⟩ : S24)] : List (S24)))).bind fun bt14 => ((q7z.f 65000 0).bind fun t18 => ((q7z.f 65000 65535).bind fun t19 => ((q7z.f 65000 7).bind fun t20 => ((plane_In.f t18 t19 t20).bind fun t21 => (if t21 = true then (if t7 = true then ((q7z.f 3 5).bind fun t22 => ((q7z.f 9 6).bind fun t23 => (if (t5 == t22 && (t6 == t23)) = true then (if bt14.2 = 0 then ((q7z.f 1 1).bind fun t24 => ((q6z.f k bt14.1 (([0, t24] : List Int))).bind fun t28 => (some t28))) else (some false)) else (some false)))) else (some false)) else (some false))))))))) = some r := H
 have A5 := Aside0.mk A50
 clear A50
 replace H := Option.bind_eq_some_iff.mp H
 obtain ⟨t9, A60, H⟩ := H
 replace H : ((q7z.f 1 2).bind fun t10 => ((plane_Cells.f k (([(⟨t9, t10⟩ : S24)] : List (S24)))).bind fun bt14 => ((q7z.f 65000 0).bind fun t18 => ((q7z.f 65000 65535).bind fun t19 => ((q7z.f 65000 7).bind fun t20 => ((plane_In.f t18 t19 t20).bind fun t21 => (if t21 = true then (if t7 = true then ((q7z.f 3 5).bind fun t22 => ((q7z.f 9 6).bind fun t23 => (if (t5 == t22 && (t6 == t23)) = true then (if bt14.2 = 0 then ((q7z.f 1 1).bind fun t24 => ((q6z.f k bt14.1 (([0, t24] : List Int))).bind fun t28 => (some t28))) else (some false)) else (some false)))) else (some false)) else (some false)))))))) = some r := H
 have A6 := Aside0.mk A60
 clear A60
 replace H := Option.bind_eq_some_iff.mp H
 obtain ⟨t10, A70, H⟩ := H
 replace H : ((plane_Cells.f k (([(⟨t9, t10⟩ : S24)] : List (S24)))).bind fun bt14 => ((q7z.f 65000 0).bind fun t18 => ((q7z.f 65000 65535).bind fun t19 => ((q7z.f 65000 7).bind fun t20 => ((plane_In.f t18 t19 t20).bind fun t21 => (if t21 = true then (if t7 = true then ((q7z.f 3 5).bind fun t22 => ((q7z.f 9 6).bind fun t23 => (if (t5 == t22 && (t6 == t23)) = true then (if bt14.2 = 0 then ((q7z.f 1 1).bind fun t24 => ((q6z.f k bt14.1 (([0, t24] : List Int))).bind fun t28 => (some t28))) else (some false)) else (some false)))) else (some false)) else (some false))))))) = some r := H
 have A7 := Aside0.mk A70
 clear A70
 obtain ⟨y11, hy11⟩ : ∃ y_ : List (S24), y_ = (([(⟨t9, t10⟩ : S24)] : List (S24))) := ⟨_, rfl⟩
 replace H : ((plane_Cells.f k y11).bind fun bt14 => ((q7z.f 65000 0).bind fun t18 => ((q7z.f 65000 65535).bind fun t19 => ((q7z.f 65000 7).bind fun t20 => ((plane_In.f t18 t19 t20).bind fun t21 => (if t21 = true then (if t7 = true then ((q7z.f 3 5).bind fun t22 => ((q7z.f 9 6).bind fun t23 => (if (t5 == t22 && (t6 == t23)) = true then (if bt14.2 = 0 then ((q7z.f 1 1).bind fun t24 => ((q6z.f k bt14.1 (([0, t24] : List Int))).bind fun t28 => (some t28))) else (some false)) else (some false)))) else (some false)) else (some false))))))) = some r := by first | (rw [hy11]; with_reducible exact H) | (have H2_ := (Option.bind_some _ _).symm.trans H; rw [hy11]; with_reducible exact H2_) | (have H2_ := (Option.bind_some _ _).symm.trans H; with_reducible exact H2_) | with_reducible exact H | (rw [hy11]; exact H) | exact H
 have Ny11 := Aside0.mk hy11
 clear hy11
 replace H := Option.bind_eq_some_iff.mp H
 obtain ⟨⟨t14, t15⟩, A80, H⟩ := H
 replace H : ((q7z.f 65000 0).bind fun t18 => ((q7z.f 65000 65535).bind fun t19 => ((q7z.f 65000 7).bind fun t20 => ((plane_In.f t18 t19 t20).bind fun t21 => (if t21 = true then (if t7 = true then ((q7z.f 3 5).bind fun t22 => ((q7z.f 9 6).bind fun t23 => (if (t5 == t22 && (t6 == t23)) = true then (if t15 = 0 then ((q7z.f 1 1).bind fun t24 => ((q6z.f k t14 (([0, t24] : List Int))).bind fun t28 => (some t28))) else (some false)) else (some false)))) else (some false)) else (some false)))))) = some r := H
 have A8 := Aside0.mk A80
 clear A80
 replace H := Option.bind_eq_some_iff.mp H
 obtain ⟨t18, A90, H⟩ := H
 replace H : ((q7z.f 65000 65535).bind fun t19 => ((q7z.f 65000 7).bind fun t20 => ((plane_In.f t18 t19 t20).bind fun t21 => (if t21 = true then (if t7 = true then ((q7z.f 3 5).bind fun t22 => ((q7z.f 9 6).bind fun t23 => (if (t5 == t22 && (t6 == t23)) = true then (if t15 = 0 then ((q7z.f 1 1).bind fun t24 => ((q6z.f k t14 (([0, t24] : List Int))).bind fun t28 => (some t28))) else (some false)) else (some false)))) else (some false)) else (some false))))) = some r := H
 have A9 := Aside0.mk A90
 clear A90
 replace H := Option.bind_eq_some_iff.mp H
 obtain ⟨t19, A100, H⟩ := H
 replace H : ((q7z.f 65000 7).bind fun t20 => ((plane_In.f t18 t19 t20).bind fun t21 => (if t21 = true then (if t7 = true then ((q7z.f 3 5).bind fun t22 => ((q7z.f 9 6).bind fun t23 => (if (t5 == t22 && (t6 == t23)) = true then (if t15 = 0 then ((q7z.f 1 1).bind fun t24 => ((q6z.f k t14 (([0, t24] : List Int))).bind fun t28 => (some t28))) else (some false)) else (some false)))) else (some false)) else (some false)))) = some r := H
 have A10 := Aside0.mk A100
 clear A100
 replace H := Option.bind_eq_some_iff.mp H
 obtain ⟨t20, A110, H⟩ := H
 replace H : ((plane_In.f t18 t19 t20).bind fun t21 => (if t21 = true then (if t7 = true then ((q7z.f 3 5).bind fun t22 => ((q7z.f 9 6).bind fun t23 => (if (t5 == t22 && (t6 == t23)) = true then (if t15 = 0 then ((q7z.f 1 1).bind fun t24 => ((q6z.f k t14 (([0, t24] : List Int))).bind fun t28 => (some t28))) else (some false)) else (some false)))) else (some false)) else (some false))) = some r := H
 have A11 := Aside0.mk A110
 clear A110
 replace H := Option.bind_eq_some_iff.mp H
 obtain ⟨t21, A120, H⟩ := H
 replace H : (if t21 = true then (if t7 = true then ((q7z.f 3 5).bind fun t22 => ((q7z.f 9 6).bind fun t23 => (if (t5 == t22 && (t6 == t23)) = true then (if t15 = 0 then ((q7z.f 1 1).bind fun t24 => ((q6z.f k t14 (([0, t24] : List Int))).bind fun t28 => (some t28))) else (some false)) else (some false)))) else (some false)) else (some false)) = some r := H
 have A12 := Aside0.mk A120
 clear A120
 by_cases c13 : t21 = true
 ·
  subst c13
  have H1 : (if t7 = true then ((q7z.f 3 5).bind fun t22 => ((q7z.f 9 6).bind fun t23 => (if (t5 == t22 && (t6 == t23)) = true then (if t15 = 0 then ((q7z.f 1 1).bind fun t24 => ((q6z.f k t14 (([0, t24] : List Int))).bind fun t28 => (some t28))) else (some false)) else (some false)))) else (some false)) = some r := by rw [if_pos rfl] at H; exact H
  clear H
  have H := H1
  clear H1
  by_cases c14 : t7 = true
  ·
   subst c14
   have H1 : ((q7z.f 3 5).bind fun t22 => ((q7z.f 9 6).bind fun t23 => (if (t5 == t22 && (t6 == t23)) = true then (if t15 = 0 then ((q7z.f 1 1).bind fun t24 => ((q6z.f k t14 (([0, t24] : List Int))).bind fun t28 => (some t28))) else (some false)) else (some false)))) = some r := by rw [if_pos rfl] at H; exact H
   clear H
   have H := H1
   clear H1
   replace H := Option.bind_eq_some_iff.mp H
   obtain ⟨t22, A150, H⟩ := H
   replace H : ((q7z.f 9 6).bind fun t23 => (if (t5 == t22 && (t6 == t23)) = true then (if t15 = 0 then ((q7z.f 1 1).bind fun t24 => ((q6z.f k t14 (([0, t24] : List Int))).bind fun t28 => (some t28))) else (some false)) else (some false))) = some r := H
   have A15 := Aside0.mk A150
   clear A150
   replace H := Option.bind_eq_some_iff.mp H
   obtain ⟨t23, A160, H⟩ := H
   replace H : (if (t5 == t22 && (t6 == t23)) = true then (if t15 = 0 then ((q7z.f 1 1).bind fun t24 => ((q6z.f k t14 (([0, t24] : List Int))).bind fun t28 => (some t28))) else (some false)) else (some false)) = some r := H
   have A16 := Aside0.mk A160
   clear A160
   by_cases c17 : (t5 == t22 && (t6 == t23)) = true
   ·
    rw [if_pos c17] at H
    have c17b0 : (t5 == t22 && (t6 == t23)) = true := c17
    (try (have c17b1 : decide (t5 = t22 && (t6 == t23)) = true := by simpa using c17))
    (try (have c17b2 : (t5 == t22 && (t6 == t23)) = true := by simpa using c17))
    clear c17
    by_cases c18 : t15 = 0
    ·
     rw [if_pos c18] at H
     have c18b0 : (t15 == 0) = true := beq_iff_eq.mpr c18
     have c18b1 : (t15 != 0) = false := bne_eq_false_iff_eq.mpr c18
     clear c18
     replace H := Option.bind_eq_some_iff.mp H
     obtain ⟨t24, A190, H⟩ := H
     replace H : ((q6z.f k t14 (([0, t24] : List Int))).bind fun t28 => (some t28)) = some r := H
     have A19 := Aside0.mk A190
     clear A190
     obtain ⟨y25, hy25⟩ : ∃ y_ : List Int, y_ = (([0, t24] : List Int)) := ⟨_, rfl⟩
     replace H : ((q6z.f k t14 y25).bind fun t28 => (some t28)) = some r := by first | (rw [hy25]; with_reducible exact H) | (have H2_ := (Option.bind_some _ _).symm.trans H; rw [hy25]; with_reducible exact H2_) | (have H2_ := (Option.bind_some _ _).symm.trans H; with_reducible exact H2_) | with_reducible exact H | (rw [hy25]; exact H) | exact H
     have Ny25 := Aside0.mk hy25
     clear hy25
     replace H := Option.bind_eq_some_iff.mp H
     obtain ⟨t28, A200, H⟩ := H
     replace H : (some t28) = some r := H
     have A20 := Aside0.mk A200
     clear A200
     obtain rfl := Option.some.inj H
     go_enter Try.func8, Try.ntmps8
     try go_wp2_with (first | ((with_reducible refine gate_callee (f := 18) rfl ?_); refine goesL_ (some 6) rfl rfl Try.func18 (by kernel_rfl) rfl #[.int .u32 1, .int .u32 5] rfl (by (try simp only [List.map_toArray, List.map_cons, List.map_nil]); first | done | rfl | (simp only [List.length_drop, List.length_take]; rfl)) ?_; (with_reducible refine (q7z.calls 1 5 t1 _ A1.out).mono ?_); rintro e w' ⟨rfl, ⟨nd, rfl⟩⟩; refine ⟨_, rfl, ?_⟩) | ((with_reducible refine gate_callee (f := 18) rfl ?_); refine goesL_ (some 7) rfl rfl Try.func18 (by kernel_rfl) rfl #[.int .u32 9, .int .u32 9] rfl (by (try simp only [List.map_toArray, List.map_cons, List.map_nil]); first | done | rfl | (simp only [List.length_drop, List.length_take]; rfl)) ?_; (with_reducible refine (q7z.calls 9 9 t2 _ A2.out).mono ?_); rintro e w' ⟨rfl, ⟨nd, rfl⟩⟩; refine ⟨_, rfl, ?_⟩) | ((with_reducible refine gate_callee (f := 18) rfl ?_); refine goesL_ (some 9) rfl rfl Try.func18 (by kernel_rfl) rfl #[.int .u32 3, .int .u32 0] rfl (by (try simp only [List.map_toArray, List.map_cons, List.map_nil]); first | done | rfl | (simp only [List.length_drop, List.length_take]; rfl)) ?_; (with_reducible refine (q7z.calls 3 0 t3 _ A3.out).mono ?_); rintro e w' ⟨rfl, ⟨nd, rfl⟩⟩; refine ⟨_, rfl, ?_⟩) | ((with_reducible refine gate_callee (f := 18) rfl ?_); refine goesL_ (some 10) rfl rfl Try.func18 (by kernel_rfl) rfl #[.int .u32 20, .int .u32 6] rfl (by (try simp only [List.map_toArray, List.map_cons, List.map_nil]); first | done | rfl | (simp only [List.length_drop, List.length_take]; rfl)) ?_; (with_reducible refine (q7z.calls 20 6 t4 _ A4.out).mono ?_); rintro e w' ⟨rfl, ⟨nd, rfl⟩⟩; refine ⟨_, rfl, ?_⟩) | ((with_reducible refine gate_callee (f := 9) rfl ?_); refine goesL_ (some 12) rfl rfl Try.func9 (by kernel_rfl) rfl #[.agg #[.int .u32 t1, .int .u32 t2], .agg #[.int .u32 t3, .int .u32 t4]] rfl (by (try simp only [List.map_toArray, List.map_cons, List.map_nil]); first | done | rfl | (simp only [List.length_drop, List.length_take]; rfl)) ?_; (with_reducible refine (plane_Meet.calls t1 t2 t3 t4 t5 t6 true _ A5.out).mono ?_); rintro e w21 ⟨rfl, hb⟩; refine ⟨_, rfl, ?_⟩; have n0_ := Aside0.mk (below_step (by repeat (first | (with_reducible first | exact HB.out | apply below_alloc | apply pw_below_drewN | apply below_drew1) | exact HB.out)) hb); clear HB; have HB := n0_; clear n0_; (try clear hb); (try clear hb2); (try clear hk); (try clear hi)) | ((with_reducible refine gate_dst (N := 1) rfl ?_); (try (refine gate_guard (by rfl) ?_; dsimp only)); refine box_event ?hg (N := 1) ?hd (cs := #[.int .u32 0, .int .u32 0]) (t := 24) ?hr ?_; (case hd => rfl); (case hg => rfl); (case hr => first | (go_simp; done) | (go_simp; rfl)); intro gb8 hg w22 hbox hb; have n0_ := Aside0.mk (below_step (by repeat (first | (with_reducible first | exact HB.out | apply below_alloc | apply pw_below_drewN | apply below_drew1) | exact HB.out)) hb); have n1_ := Aside0.mk (hbox); have n2_ := Aside0.mk ((by rw [hg]; exact (below_size (by repeat (first | (with_reducible first | exact HB.out | apply below_alloc | apply pw_below_drewN | apply below_drew1) | exact HB.out))) : w.heap.size ≤ gb8)); have n3_ := Aside0.mk ((by rw [hg]; exact (below_size (by repeat (first | (with_reducible first | exact HB.out | apply below_alloc | apply pw_below_drewN | apply below_drew1) | exact HB.out))) : w.heap.size ≤ gb8)); clear HB; have HB := n0_; have BK8 := n1_; have GW8 := n2_; have GE8 := n3_; clear n0_ n1_ n2_ n3_; clear hb hbox hg; have hcz23_0 : w22.cell? ⟨gb8, 0, none⟩ = some (.int .u32 0) := (blk_cell BK8.out 0).trans rfl; have hcz23_1 : w22.cell? ⟨gb8, 1, none⟩ = some (.int .u32 0) := (blk_cell BK8.out 1).trans rfl; have hfz23_0 := blk_frozen BK8.out 0; have hfz23_1 := blk_frozen BK8.out 1) | ((with_reducible refine gate_callee (f := 18) rfl ?_); refine goesL_ (some 16) rfl rfl Try.func18 (by kernel_rfl) rfl #[.int .u32 1, .int .u32 1] rfl (by (try simp only [List.map_toArray, List.map_cons, List.map_nil]); first | done | rfl | (simp only [List.length_drop, List.length_take]; rfl)) ?_; (with_reducible refine (q7z.calls 1 1 t9 _ A6.out).mono ?_); rintro e w' ⟨rfl, ⟨nd, rfl⟩⟩; refine ⟨_, rfl, ?_⟩) | ((with_reducible refine gate_callee (f := 18) rfl ?_); refine goesL_ (some 17) rfl rfl Try.func18 (by kernel_rfl) rfl #[.int .u32 1, .int .u32 2] rfl (by (try simp only [List.map_toArray, List.map_cons, List.map_nil]); first | done | rfl | (simp only [List.length_drop, List.length_take]; rfl)) ?_; (with_reducible refine (q7z.calls 1 2 t10 _ A7.out).mono ?_); rintro e w' ⟨rfl, ⟨nd, rfl⟩⟩; refine ⟨_, rfl, ?_⟩) | ((with_reducible refine gate_dst (N := 19) rfl ?_); (try (refine gate_guard (by rfl) ?_; dsimp only)); refine Kd.R_lit k24 _ 24 ?hg (N := 19) ?hd (xs := ([(⟨t9, t10⟩ : S24)] : List (S24))) (inner := [.int .u32 t9, .int .u32 t10]) (ok := fun _ => True) (okp := fun _ => True) ?hr ?hp (fun _ hk => hk) trivial (Below.refl _ _) (Nat.le_refl _) (by simp) ?_; (case hd => rfl); (case hg => rfl); (case hr => first | (go_simp; done) | (go_simp; rfl)); (case hp => exact (Reps.c2 (show Kd.M k24 _ _ _ (⟨t9, t10⟩ : S24) [.int .u32 t9, .int .u32 t10] from (k24_mkM _ _ _ (⟨t9, t10⟩ : S24) )) (Reps.none _ _))); intro v12 w24 ho25 hb hg_ hnew_; clear hg_ hnew_; (first | rw [← Ny11.out] at ho25 | (simp only [Int.reduceToNat] at ho25; rw [← Ny11.out] at ho25)); have n0_ := Aside0.mk (Kd.R_lower (Kd.R_newB ho25 (g := gb8) (o := .cells #[.int .u32 t5, .int .u32 t6] 24 (0, 0)) (by (with_reducible repeat (first | refine blk_drewN ?_ _ | refine blk_drew ?_ | refine blk_alloc ?_ _)); refine blk_put (cs := #[.int .u32 t5, .int .u32 0]) ?_ 1 _ rfl; (with_reducible repeat (first | refine blk_drewN ?_ _ | refine blk_drew ?_ | refine blk_alloc ?_ _)); refine blk_put (cs := #[.int .u32 0, .int .u32 0]) ?_ 0 _ rfl; (with_reducible repeat (first | refine blk_drewN ?_ _ | refine blk_drew ?_ | refine blk_alloc ?_ _)); exact BK8.out)) (below_size (by repeat (first | (with_reducible first | exact HB.out | apply below_alloc | apply pw_below_drewN | apply below_drew1 | refine below_set ?_ GE8.out) | exact HB.out)))); have n1_ := Aside0.mk (blk_below (g := gb8) (o := .cells #[.int .u32 t5, .int .u32 t6] 24 (0, 0)) (by (with_reducible repeat (first | refine blk_drewN ?_ _ | refine blk_drew ?_ | refine blk_alloc ?_ _)); refine blk_put (cs := #[.int .u32 t5, .int .u32 0]) ?_ 1 _ rfl; (with_reducible repeat (first | refine blk_drewN ?_ _ | refine blk_drew ?_ | refine blk_alloc ?_ _)); refine blk_put (cs := #[.int .u32 0, .int .u32 0]) ?_ 0 _ rfl; (with_reducible repeat (first | refine blk_drewN ?_ _ | refine blk_drew ?_ | refine blk_alloc ?_ _)); exact BK8.out) hb); have n2_ := Aside0.mk (below_step (by repeat (first | (with_reducible first | exact HB.out | apply below_alloc | apply pw_below_drewN | apply below_drew1 | refine below_set ?_ GE8.out) | exact HB.out)) hb); clear BK8; clear HB; have HO13 := n0_; have BK8 := n1_; have HB := n2_; clear n0_ n1_ n2_; clear hb ho25; obtain ⟨Ao26, co26, eo26⟩ := Kd.R_slice HO13.out; subst eo26) | ((with_reducible refine gate_callee (f := 12) rfl ?_); refine goesL_ (some 20) rfl rfl Try.func12 (by kernel_rfl) rfl #[.slice Ao26 y11.length co26] rfl (by (try simp only [List.map_toArray, List.map_cons, List.map_nil]); first | done | rfl | (simp only [List.length_drop, List.length_take]; rfl)) ?_; (with_reducible refine (plane_Cells.calls k _ _ y11 t14 t15 _ ?side1 ?side2 A8.out).mono ?_); (case side1 => repeat (first | exact (Kd.R_reads' HO13.out).2.2 | (with_reducible refine Kd.C_alloc ?_ _) | (with_reducible refine Kd.C_drewN ?_ _) | (with_reducible refine Kd.C_drew ?_))); (case side2 => exact (Kd.R_reads' HO13.out).2.1); rintro e w27 ⟨v16, rfl, ho0, hb⟩; refine ⟨_, rfl, ?_⟩; have n0_ := Aside0.mk (Kd.R_below (by (with_reducible repeat (first | apply Kd.R_alloc | apply Kd.R_drewN | apply Kd.R_drew)); exact HO13.out) hb); have n1_ := Aside0.mk (Kd.R_lower ho0 (below_size (by repeat (first | (with_reducible first | exact HB.out | apply below_alloc | apply pw_below_drewN | apply below_drew1 | refine below_set ?_ GE8.out) | exact HB.out)))); have n2_ := Aside0.mk (blk_below (g := gb8) (o := .cells #[.int .u32 t5, .int .u32 t6] 24 (0, 0)) (by (with_reducible repeat (first | refine blk_drewN ?_ _ | refine blk_drew ?_ | refine blk_alloc ?_ _)); exact BK8.out) hb); have n3_ := Aside0.mk (below_step (by repeat (first | (with_reducible first | exact HB.out | apply below_alloc | apply pw_below_drewN | apply below_drew1 | refine below_set ?_ GE8.out) | exact HB.out)) hb); clear HO13; clear BK8; clear HB; have HO13 := n0_; have HO17 := n1_; have BK8 := n2_; have HB := n3_; clear n0_ n1_ n2_ n3_; (try clear hb); (try clear hb2); (try clear hk); (try clear hi); (try clear ho0)))
     have n0_ := Aside0.mk (Kd.R_drew HO13.out)
     have n1_ := Aside0.mk (Kd.R_drew HO17.out)
     have n2_ := Aside0.mk (blk_drew BK8.out)
     have n3_ := Aside0.mk (below_drew1 HB.out)
     clear HO13
     clear HO17
     clear BK8
     clear HB
     have HO13 := n0_
     have HO17 := n1_
     have BK8 := n2_
     have HB := n3_
     clear n0_ n1_ n2_ n3_
     refine start_ (n := 26) (S := fun w' => w'.cell? ⟨gb8, 0, none⟩ = some (.int .u32 t5) ∧ w'.cell? ⟨gb8, 1, none⟩ = some (.int .u32 t6)) (ds := []) #[false, false, false, false, false, false, false, false, false, false, false, false, false, false, false, false, false, false, false, false, false, false, false, false, false, false] (by kernel_rfl) rfl rfl ⟨(blk_cell BK8.out 0).trans rfl, (blk_cell BK8.out 1).trans rfl⟩ (fun hHeld => ?_); refine with_tabW q9z.tab3 q9z.bits3 (fun HT_ HW_ => ?_)
     generalize w27.drew = w28 at HO13 HO17 BK8 HB hHeld ⊢
     refine one_ (i := 0) (N := some 23) #[true, false, false, false, false, false, false, false, false, false, false, false, false, false, false, false, false, false, false, false, false, false, false, false, false, false] rfl rfl (one_of HT_.out (by kernel_rfl)) (by decide) (fun K hK => ?_)
     refine goes_ Try.func18 (by kernel_rfl) rfl #[.int .u32 65000, .int .u32 0] (by rfl) rfl rfl (by (try simp only [List.map_toArray, List.map_cons, List.map_nil]); first | done | rfl | (simp only [List.length_drop, List.length_take]; rfl)) ?_
     with_reducible refine (q7z.calls 65000 0 t18 _ A9.out).mono ?_
     rintro e w' ⟨rfl, ⟨nd, rfl⟩⟩
     refine ⟨_, rfl, ?_⟩
     refine hK.out _ _ ⟨(blk_cell BK8.out 0).trans rfl, (blk_cell BK8.out 1).trans rfl⟩ (fun hHeld => ?_)
     clear hK K
     refine norm_ (a' := ?_) ?_ ?_
     rotate_left
     ·
      show Act.put _ (some 23) _ = _
      simp only [Act.put, List.setIfInBounds_toArray, List.set_cons_zero, List.set_cons_succ, i64_w, i32_w, IntKind.wrap_u32]
      rfl
     refine one_ (i := 1) (N := some 24) #[true, true, false, false, false, false, false, false, false, false, false, false, false, false, false, false, false, false, false, false, false, false, false, false, false, false] rfl rfl (one_of HT_.out (by kernel_rfl)) (by decide) (fun K hK => ?_)
     refine goes_ Try.func18 (by kernel_rfl) rfl #[.int .u32 65000, .int .u32 65535] (by rfl) rfl rfl (by (try simp only [List.map_toArray, List.map_cons, List.map_nil]); first | done | rfl | (simp only [List.length_drop, List.length_take]; rfl)) ?_
     with_reducible refine (q7z.calls 65000 65535 t19 _ A10.out).mono ?_
     rintro e w' ⟨rfl, ⟨nd, rfl⟩⟩
     refine ⟨_, rfl, ?_⟩
     refine hK.out _ _ ⟨(blk_cell BK8.out 0).trans rfl, (blk_cell BK8.out 1).trans rfl⟩ (fun hHeld => ?_)
     clear hK K
     refine norm_ (a' := ?_) ?_ ?_
     rotate_left
     ·
      show Act.put _ (some 24) _ = _
      simp only [Act.put, List.setIfInBounds_toArray, List.set_cons_zero, List.set_cons_succ, i64_w, i32_w, IntKind.wrap_u32]
      rfl
     refine pure_ (i := 2) (N := some 25) (v := ?_) (a' := ?_) #[true, true, true, false, false, false, false, false, false, false, false, false, false, false, false, false, false, false, false, false, false, false, false, false, false, false] rfl rfl (any_of HT_.out (by kernel_rfl)) (fun _ _ _ h => h) (Or.inl ⟨by rfl, ?_⟩) ?_ ?_
     rotate_left
     ·
      intro w'
      go_simp
      with_reducible rfl
     rotate_left
     ·
      simp only [Act.put, List.setIfInBounds_toArray, List.set_cons_zero, List.set_cons_succ, i64_w, i32_w, IntKind.wrap_u32]
      rfl
     refine one_ (i := 3) (N := some 26) #[true, true, true, true, false, false, false, false, false, false, false, false, false, false, false, false, false, false, false, false, false, false, false, false, false, false] rfl rfl (one_of HT_.out (by kernel_rfl)) (by decide) (fun K hK => ?_)
     refine goes_ Try.func18 (by kernel_rfl) rfl #[.int .u32 65000, .int .u32 7] (by rfl) rfl rfl (by (try simp only [List.map_toArray, List.map_cons, List.map_nil]); first | done | rfl | (simp only [List.length_drop, List.length_take]; rfl)) ?_
     with_reducible refine (q7z.calls 65000 7 t20 _ A11.out).mono ?_
     rintro e w' ⟨rfl, ⟨nd, rfl⟩⟩
     refine ⟨_, rfl, ?_⟩
     refine hK.out _ _ ⟨(blk_cell BK8.out 0).trans rfl, (blk_cell BK8.out 1).trans rfl⟩ (fun hHeld => ?_)
     clear hK K
     refine norm_ (a' := ?_) ?_ ?_
     rotate_left
     ·
      show Act.put _ (some 26) _ = _
      simp only [Act.put, List.setIfInBounds_toArray, List.set_cons_zero, List.set_cons_succ, i64_w, i32_w, IntKind.wrap_u32]
      rfl
     refine one_ (i := 4) (N := some 27) #[true, true, true, true, true, false, false, false, false, false, false, false, false, false, false, false, false, false, false, false, false, false, false, false, false, false] rfl rfl (one_of HT_.out (by kernel_rfl)) (by decide) (fun K hK => ?_)
     refine goes_ Try.func11 (by kernel_rfl) rfl #[.agg #[.int .u32 t18, .int .u32 t19], .int .u32 t20] (by rfl) rfl rfl (by (try simp only [List.map_toArray, List.map_cons, List.map_nil]); first | done | rfl | (simp only [List.length_drop, List.length_take]; rfl)) ?_
     with_reducible refine (plane_In.calls t18 t19 t20 true _ A12.out).mono ?_
     rintro e w29 ⟨rfl, hb⟩
     refine ⟨_, rfl, ?_⟩
     have n0_ := Aside0.mk (Kd.R_below (by (with_reducible repeat (first | apply Kd.R_alloc | apply Kd.R_drewN | apply Kd.R_drew)); exact HO13.out) hb)
     have n1_ := Aside0.mk (Kd.R_below (by (with_reducible repeat (first | apply Kd.R_alloc | apply Kd.R_drewN | apply Kd.R_drew)); exact HO17.out) hb)
     have n2_ := Aside0.mk (blk_below (g := gb8) (o := .cells #[.int .u32 t5, .int .u32 t6] 24 (0, 0)) (by (with_reducible repeat (first | refine blk_drewN ?_ _ | refine blk_drew ?_ | refine blk_alloc ?_ _)); exact BK8.out) hb)
     have n3_ := Aside0.mk (below_step (by repeat (first | (with_reducible first | exact HB.out | apply below_alloc | apply pw_below_drewN | apply below_drew1 | refine below_set ?_ GE8.out) | exact HB.out)) hb)
     clear HO13
     clear HO17
     clear BK8
     clear HB
     have HO13 := n0_
     have HO17 := n1_
     have BK8 := n2_
     have HB := n3_
     clear n0_ n1_ n2_ n3_
     (try clear hb)
     (try clear hb2)
     (try clear hk)
     (try clear hi)
     refine hK.out _ _ ⟨(blk_cell BK8.out 0).trans rfl, (blk_cell BK8.out 1).trans rfl⟩ (fun hHeld => ?_)
     clear hK K
     refine norm_ (a' := ?_) ?_ ?_
     rotate_left
     ·
      show Act.put _ (some 27) _ = _
      simp only [Act.put, List.setIfInBounds_toArray, List.set_cons_zero, List.set_cons_succ, i64_w, i32_w, IntKind.wrap_u32]
      rfl
     refine pure_ (i := 5) (N := some 28) (v := ?_) (a' := ?_) #[true, true, true, true, true, true, false, false, false, false, false, false, false, false, false, false, false, false, false, false, false, false, false, false, false, false] rfl rfl (any_of HT_.out (by kernel_rfl)) (fun _ _ _ h => h) (Or.inl ⟨by rfl, ?_⟩) ?_ ?_
     rotate_left
     ·
      intro w'
      go_simp
      with_reducible rfl
     rotate_left
     ·
      simp only [Act.put, List.setIfInBounds_toArray, List.set_cons_zero, List.set_cons_succ, i64_w, i32_w, IntKind.wrap_u32]
      rfl
     refine pure_ (i := 6) (N := some 29) (v := ?_) (a' := ?_) #[true, true, true, true, true, true, true, false, false, false, false, false, false, false, false, false, false, false, false, false, false, false, false, false, false, false] rfl rfl (any_of HT_.out (by kernel_rfl)) (fun _ _ _ h => h) (Or.inl ⟨by rfl, ?_⟩) ?_ ?_
     rotate_left
     ·
      intro w'
      go_simp
      with_reducible rfl
     rotate_left
     ·
      simp only [Act.put, List.setIfInBounds_toArray, List.set_cons_zero, List.set_cons_succ, i64_w, i32_w, IntKind.wrap_u32]
      rfl
     refine pure_ (i := 7) (N := some 30) (v := ?_) (a' := ?_) #[true, true, true, true, true, true, true, true, false, false, false, false, false, false, false, false, false, false, false, false, false, false, false, false, false, false] rfl rfl (any_of HT_.out (by kernel_rfl)) (fun _ _ _ h => h) (Or.inl ⟨by rfl, ?_⟩) ?_ ?_
     rotate_left
     ·
      intro w'
      go_simp
      with_reducible rfl
     rotate_left
     ·
      simp only [Act.put, List.setIfInBounds_toArray, List.set_cons_zero, List.set_cons_succ, i64_w, i32_w, IntKind.wrap_u32]
      rfl
     refine pure_ (i := 8) (N := some 31) (v := ?_) (a' := ?_) #[true, true, true, true, true, true, true, true, true, false, false, false, false, false, false, false, false, false, false, false, false, false, false, false, false, false] rfl rfl (any_of HT_.out (by kernel_rfl)) (fun _ _ _ h => h) (Or.inl ⟨by rfl, ?_⟩) ?_ ?_
     rotate_left
     ·
      intro w'
      go_simp
      with_reducible rfl
     rotate_left
     ·
      simp only [Act.put, List.setIfInBounds_toArray, List.set_cons_zero, List.set_cons_succ, i64_w, i32_w, IntKind.wrap_u32]
      rfl
     refine take_ (i := 9) (N := some 32) (v := ?_) (a' := ?_) #[true, true, true, true, true, true, true, true, true, true, false, false, false, false, false, false, false, false, false, false, false, false, false, false, false, false] rfl rfl (take_ofW HT_.out HW_.out (by kernel_rfl)) (fun _ _ _ h => h) (Or.inl ⟨by rfl, ?_⟩) hHeld ?_ ?_
     rotate_left
     ·
      rintro w' ⟨s0, s1⟩
      go_simp
      with_reducible rfl
     rotate_left
     ·
      simp only [Act.put, List.setIfInBounds_toArray, List.set_cons_zero, List.set_cons_succ, i64_w, i32_w, IntKind.wrap_u32]
      rfl
     refine one_ (i := 10) (N := some 33) #[true, true, true, true, true, true, true, true, true, true, true, false, false, false, false, false, false, false, false, false, false, false, false, false, false, false] rfl rfl (one_of HT_.out (by kernel_rfl)) (by decide) (fun K hK => ?_)
     refine goes_ Try.func18 (by kernel_rfl) rfl #[.int .u32 3, .int .u32 5] (by rfl) rfl rfl (by (try simp only [List.map_toArray, List.map_cons, List.map_nil]); first | done | rfl | (simp only [List.length_drop, List.length_take]; rfl)) ?_
     with_reducible refine (q7z.calls 3 5 t22 _ A15.out).mono ?_
     rintro e w' ⟨rfl, ⟨nd, rfl⟩⟩
     refine ⟨_, rfl, ?_⟩
     refine hK.out _ _ ⟨(blk_cell BK8.out 0).trans rfl, (blk_cell BK8.out 1).trans rfl⟩ (fun hHeld => ?_)
     clear hK K
     refine norm_ (a' := ?_) ?_ ?_
     rotate_left
     ·
      show Act.put _ (some 33) _ = _
      simp only [Act.put, List.setIfInBounds_toArray, List.set_cons_zero, List.set_cons_succ, i64_w, i32_w, IntKind.wrap_u32]
      rfl
     refine one_ (i := 11) (N := some 34) #[true, true, true, true, true, true, true, true, true, true, true, true, false, false, false, false, false, false, false, false, false, false, false, false, false, false] rfl rfl (one_of HT_.out (by kernel_rfl)) (by decide) (fun K hK => ?_)
     refine goes_ Try.func18 (by kernel_rfl) rfl #[.int .u32 9, .int .u32 6] (by rfl) rfl rfl (by (try simp only [List.map_toArray, List.map_cons, List.map_nil]); first | done | rfl | (simp only [List.length_drop, List.length_take]; rfl)) ?_
     with_reducible refine (q7z.calls 9 6 t23 _ A16.out).mono ?_
     rintro e w' ⟨rfl, ⟨nd, rfl⟩⟩
     refine ⟨_, rfl, ?_⟩
     refine hK.out _ _ ⟨(blk_cell BK8.out 0).trans rfl, (blk_cell BK8.out 1).trans rfl⟩ (fun hHeld => ?_)
     clear hK K
     refine norm_ (a' := ?_) ?_ ?_
     rotate_left
     ·
      show Act.put _ (some 34) _ = _
      simp only [Act.put, List.setIfInBounds_toArray, List.set_cons_zero, List.set_cons_succ, i64_w, i32_w, IntKind.wrap_u32]
      rfl
     refine pure_ (i := 12) (N := some 35) (v := ?_) (a' := ?_) #[true, true, true, true, true, true, true, true, true, true, true, true, true, false, false, false, false, false, false, false, false, false, false, false, false, false] rfl rfl (any_of HT_.out (by kernel_rfl)) (fun _ _ _ h => h) (Or.inl ⟨by rfl, ?_⟩) ?_ ?_
     rotate_left
     ·
      intro w'
      go_simp
      with_reducible rfl
     rotate_left
     ·
      simp only [Act.put, List.setIfInBounds_toArray, List.set_cons_zero, List.set_cons_succ, i64_w, i32_w, IntKind.wrap_u32]
      rfl
     refine pure_ (i := 13) (N := some 36) (v := ?_) (a' := ?_) #[true, true, true, true, true, true, true, true, true, true, true, true, true, true, false, false, false, false, false, false, false, false, false, false, false, false] rfl rfl (any_of HT_.out (by kernel_rfl)) (fun _ _ _ h => h) (Or.inl ⟨by rfl, ?_⟩) ?_ ?_
     rotate_left
     ·
      intro w'
      go_simp
      with_reducible rfl
     rotate_left
     ·
      simp only [Act.put, List.setIfInBounds_toArray, List.set_cons_zero, List.set_cons_succ, i64_w, i32_w, IntKind.wrap_u32]
      rfl
     refine pure_ (i := 14) (N := some 37) (v := ?_) (a' := ?_) #[true, true, true, true, true, true, true, true, true, true, true, true, true, true, true, false, false, false, false, false, false, false, false, false, false, false] rfl rfl (any_of HT_.out (by kernel_rfl)) (fun _ _ _ h => h) (Or.inl ⟨by rfl, ?_⟩) ?_ ?_
     rotate_left
     ·
      intro w'
      go_simp
      with_reducible rfl
     rotate_left
     ·
      simp only [Act.put, List.setIfInBounds_toArray, List.set_cons_zero, List.set_cons_succ, i64_w, i32_w, IntKind.wrap_u32]
      rfl
     refine pure_ (i := 15) (N := some 38) (v := ?_) (a' := ?_) #[true, true, true, true, true, true, true, true, true, true, true, true, true, true, true, true, false, false, false, false, false, false, false, false, false, false] rfl rfl (any_of HT_.out (by kernel_rfl)) (fun _ _ _ h => h) (Or.inl ⟨by rfl, ?_⟩) ?_ ?_
     rotate_left
     ·
      intro w'
      go_simp
      with_reducible rfl
     rotate_left
     ·
      simp only [Act.put, List.setIfInBounds_toArray, List.set_cons_zero, List.set_cons_succ, i64_w, i32_w, IntKind.wrap_u32]
      rfl
     refine pure_ (i := 16) (N := some 39) (v := ?_) (a' := ?_) #[true, true, true, true, true, true, true, true, true, true, true, true, true, true, true, true, true, false, false, false, false, false, false, false, false, false] rfl rfl (any_of HT_.out (by kernel_rfl)) (fun _ _ _ h => h) (Or.inl ⟨by rfl, ?_⟩) ?_ ?_
     rotate_left
     ·
      intro w'
      go_simp
      with_reducible rfl
     rotate_left
     ·
      simp only [Act.put, List.setIfInBounds_toArray, List.set_cons_zero, List.set_cons_succ, i64_w, i32_w, IntKind.wrap_u32]
      rfl
     refine pure_ (i := 17) (N := some 40) (v := ?_) (a' := ?_) #[true, true, true, true, true, true, true, true, true, true, true, true, true, true, true, true, true, true, false, false, false, false, false, false, false, false] rfl rfl (any_of HT_.out (by kernel_rfl)) (fun _ _ _ h => h) (Or.inl ⟨by rfl, ?_⟩) ?_ ?_
     rotate_left
     ·
      intro w'
      go_simp
      with_reducible rfl
     rotate_left
     ·
      simp only [Act.put, List.setIfInBounds_toArray, List.set_cons_zero, List.set_cons_succ, i64_w, i32_w, IntKind.wrap_u32]
      rfl
     refine pure_ (i := 18) (N := some 41) (v := ?_) (a' := ?_) #[true, true, true, true, true, true, true, true, true, true, true, true, true, true, true, true, true, true, true, false, false, false, false, false, false, false] rfl rfl (any_of HT_.out (by kernel_rfl)) (fun _ _ _ h => h) (Or.inl ⟨by rfl, ?_⟩) ?_ ?_
     rotate_left
     ·
      intro w'
      go_simp
      with_reducible rfl
     rotate_left
     ·
      simp only [Act.put, List.setIfInBounds_toArray, List.set_cons_zero, List.set_cons_succ, i64_w, i32_w, IntKind.wrap_u32]
      rfl
     refine pure_ (i := 19) (N := some 42) (v := ?_) (a' := ?_) #[true, true, true, true, true, true, true, true, true, true, true, true, true, true, true, true, true, true, true, true, false, false, false, false, false, false] rfl rfl (any_of HT_.out (by kernel_rfl)) (fun _ _ _ h => h) (Or.inl ⟨by rfl, ?_⟩) ?_ ?_
     rotate_left
     ·
      intro w'
      go_simp
      with_reducible rfl
     rotate_left
     ·
      simp only [Act.put, List.setIfInBounds_toArray, List.set_cons_zero, List.set_cons_succ, i64_w, i32_w, IntKind.wrap_u32]
      rfl
     refine pure_ (i := 20) (N := some 43) (v := ?_) (a' := ?_) #[true, true, true, true, true, true, true, true, true, true, true, true, true, true, true, true, true, true, true, true, true, false, false, false, false, false] rfl rfl (any_of HT_.out (by kernel_rfl)) (fun _ _ _ h => h) (Or.inl ⟨by rfl, ?_⟩) ?_ ?_
     rotate_left
     ·
      intro w'
      go_simp
      with_reducible rfl
     rotate_left
     ·
      simp only [Act.put, List.setIfInBounds_toArray, List.set_cons_zero, List.set_cons_succ, i64_w, i32_w, IntKind.wrap_u32]
      rfl
     refine one_ (i := 21) (N := some 44) #[true, true, true, true, true, true, true, true, true, true, true, true, true, true, true, true, true, true, true, true, true, true, false, false, false, false] rfl rfl (one_of HT_.out (by kernel_rfl)) (by decide) (fun K hK => ?_)
     refine goes_ Try.func18 (by kernel_rfl) rfl #[.int .u32 1, .int .u32 1] (by rfl) rfl rfl (by (try simp only [List.map_toArray, List.map_cons, List.map_nil]); first | done | rfl | (simp only [List.length_drop, List.length_take]; rfl)) ?_
     with_reducible refine (q7z.calls 1 1 t24 _ A19.out).mono ?_
     rintro e w' ⟨rfl, ⟨nd, rfl⟩⟩
     refine ⟨_, rfl, ?_⟩
     refine hK.out _ _ ⟨(blk_cell BK8.out 0).trans rfl, (blk_cell BK8.out 1).trans rfl⟩ (fun hHeld => ?_)
     clear hK K
     refine norm_ (a' := ?_) ?_ ?_
     rotate_left
     ·
      show Act.put _ (some 44) _ = _
      simp only [Act.put, List.setIfInBounds_toArray, List.set_cons_zero, List.set_cons_succ, i64_w, i32_w, IntKind.wrap_u32]
      rfl
     refine one_ (i := 22) (N := some 45) #[true, true, true, true, true, true, true, true, true, true, true, true, true, true, true, true, true, true, true, true, true, true, true, false, false, false] rfl rfl (one_of HT_.out (by kernel_rfl)) (by decide) (fun K hK => ?_)
     refine Kd.R_lit_step (Kd.int .u32) _ 22 ?hg (N := 45) ?hd (xs := ([0, t24] : List Int)) (inner := [.int .u32 0, .int .u32 t24]) (ok := fun _ => True) (okp := fun _ => True) ?hr ?hp (fun _ hk => hk) trivial (Below.refl _ _) (Nat.le_refl _) (by simp) ?_; (case hd => rfl); (case hg => rfl); (case hr => first | (go_simp; done) | (go_simp; rfl)); (case hp => exact (Reps.one (show Kd.M (Kd.int .u32) _ _ _ 0 [.int .u32 0] from rfl) (Reps.one (show Kd.M (Kd.int .u32) _ _ _ t24 [.int .u32 t24] from rfl) (Reps.none _ _))))
     intro v26 w30 ho31 hb hg_ hnew_
     clear hg_ hnew_
     (first | rw [← Ny25.out] at ho31 | (simp only [Int.reduceToNat] at ho31; rw [← Ny25.out] at ho31))
     have n0_ := Aside0.mk (Kd.R_below (by (with_reducible repeat (first | apply Kd.R_alloc | apply Kd.R_drewN | apply Kd.R_drew)); exact HO13.out) hb)
     have n1_ := Aside0.mk (Kd.R_elder' (by (with_reducible repeat (first | apply Kd.R_alloc | apply Kd.R_drewN | apply Kd.R_drew)); exact HO17.out) (Kd.R_base ho31) hb)
     have n2_ := Aside0.mk (Kd.R_lower (Kd.R_new' ho31 (Kd.R_lt (by (with_reducible repeat (first | apply Kd.R_alloc | apply Kd.R_drewN | apply Kd.R_drew)); exact HO17.out))) (below_size (by repeat (first | (with_reducible first | exact HB.out | apply below_alloc | apply pw_below_drewN | apply below_drew1 | refine below_set ?_ GE8.out) | exact HB.out))))
     have n3_ := Aside0.mk (blk_below (g := gb8) (o := .cells #[.int .u32 t5, .int .u32 t6] 24 (0, 0)) (by (with_reducible repeat (first | refine blk_drewN ?_ _ | refine blk_drew ?_ | refine blk_alloc ?_ _)); exact BK8.out) hb)
     have n4_ := Aside0.mk (below_step (by repeat (first | (with_reducible first | exact HB.out | apply below_alloc | apply pw_below_drewN | apply below_drew1 | refine below_set ?_ GE8.out) | exact HB.out)) hb)
     clear HO13
     clear HO17
     clear BK8
     clear HB
     have HO13 := n0_
     have HO17 := n1_
     have HO27 := n2_
     have BK8 := n3_
     have HB := n4_
     clear n0_ n1_ n2_ n3_ n4_
     clear hb ho31
     obtain ⟨Ao32, co32, eo32⟩ := Kd.R_slice HO17.out
     (first | subst eo32 | (injection eo32 with f1_ f2_ f3_; have f4_ := f1_.symm; have f5_ := f3_.symm; clear f1_ f2_ f3_; subst f4_; subst f5_))
     obtain ⟨Ao33, co33, eo33⟩ := Kd.R_slice HO27.out
     (first | subst eo33 | (injection eo33 with f1_ f2_ f3_; have f4_ := f1_.symm; have f5_ := f3_.symm; clear f1_ f2_ f3_; subst f4_; subst f5_))
     refine hK.out _ _ ⟨(blk_cell BK8.out 0).trans rfl, (blk_cell BK8.out 1).trans rfl⟩ (fun hHeld => ?_)
     clear hK K
     refine norm_ (a' := ?_) ?_ ?_
     rotate_left
     ·
      show Act.put _ (some 45) _ = _
      simp only [Act.put, List.setIfInBounds_toArray, List.set_cons_zero, List.set_cons_succ, i64_w, i32_w, IntKind.wrap_u32]
      rfl
     refine one_ (i := 23) (N := some 46) #[true, true, true, true, true, true, true, true, true, true, true, true, true, true, true, true, true, true, true, true, true, true, true, true, false, false] rfl rfl (one_of HT_.out (by kernel_rfl)) (by decide) (fun K hK => ?_)
     refine goes_ Try.func14 (by kernel_rfl) rfl #[.slice Ao32 t14.length co32, .slice Ao33 y25.length co33] (by rfl) rfl rfl (by (try simp only [List.map_toArray, List.map_cons, List.map_nil]); first | done | rfl | (simp only [List.length_drop, List.length_take]; rfl)) ?_
     with_reducible refine (q6z.calls k _ _ t14 _ _ y25 t28 _ ?side1 ?side2 ?side3 ?side4 A20.out).mono ?_
     (case side1 => repeat (first | exact (Kd.R_reads' HO17.out).2.2 | (with_reducible refine Kd.C_alloc ?_ _) | (with_reducible refine Kd.C_drewN ?_ _) | (with_reducible refine Kd.C_drew ?_)))
     (case side2 => exact (Kd.R_reads' HO17.out).2.1)
     (case side3 => repeat (first | exact (Kd.R_reads' HO27.out).2.2 | (with_reducible refine Kd.C_alloc ?_ _) | (with_reducible refine Kd.C_drewN ?_ _) | (with_reducible refine Kd.C_drew ?_)))
     (case side4 => exact (Kd.R_reads' HO27.out).2.1)
     rintro e w' ⟨rfl, ⟨nd, rfl⟩⟩
     refine ⟨_, rfl, ?_⟩
     refine hK.out _ _ ⟨(blk_cell BK8.out 0).trans rfl, (blk_cell BK8.out 1).trans rfl⟩ (fun hHeld => ?_)
     clear hK K
     refine norm_ (a' := ?_) ?_ ?_
     rotate_left
     ·
      show Act.put _ (some 46) _ = _
      simp only [Act.put, List.setIfInBounds_toArray, List.set_cons_zero, List.set_cons_succ, i64_w, i32_w, IntKind.wrap_u32]
      rfl
     refine pure_ (i := 24) (N := some 47) (v := ?_) (a' := ?_) #[true, true, true, true, true, true, true, true, true, true, true, true, true, true, true, true, true, true, true, true, true, true, true, true, true, false] rfl rfl (any_of HT_.out (by kernel_rfl)) (fun _ _ _ h => h) (Or.inl ⟨by rfl, ?_⟩) ?_ ?_
     rotate_left
     ·
      intro w'
      go_simp
      with_reducible rfl
     rotate_left
     ·
      simp only [Act.put, List.setIfInBounds_toArray, List.set_cons_zero, List.set_cons_succ, i64_w, i32_w, IntKind.wrap_u32]
      rfl
     refine pure_ (i := 25) (N := some 0) (v := ?_) (a' := ?_) #[true, true, true, true, true, true, true, true, true, true, true, true, true, true, true, true, true, true, true, true, true, true, true, true, true, true] rfl rfl (any_of HT_.out (by kernel_rfl)) (fun _ _ _ h => h) (Or.inl ⟨by rfl, ?_⟩) ?_ ?_
     rotate_left
     ·
      intro w'
      go_simp
      with_reducible rfl
     rotate_left
     ·
      simp only [Act.put, List.setIfInBounds_toArray, List.set_cons_zero, List.set_cons_succ, i64_w, i32_w, IntKind.wrap_u32]
      rfl
     refine done_ (done_of HT_.out (by kernel_rfl)) ?_
     try go_wp2
     go_ret
     exact ⟨by first | rfl | (simp [errW_none, errW_some] <;> rfl) | (simp [*, errW_none, errW_some] <;> rfl), by repeat (first | (with_reducible first | exact HB.out | apply below_alloc | apply pw_below_drewN | apply below_drew1 | refine below_set ?_ GE8.out) | exact HB.out)⟩
    ·
     rw [if_neg c18] at H
     have c18b0 : (t15 == 0) = false := beq_eq_false_iff_ne.mpr c18
     have c18b1 : (t15 != 0) = true := bne_iff_ne.mpr c18
     obtain rfl := Option.some.inj H
     go_enter Try.func8, Try.ntmps8
     try go_wp2_with (first | ((with_reducible refine gate_callee (f := 18) rfl ?_); refine goesL_ (some 6) rfl rfl Try.func18 (by kernel_rfl) rfl #[.int .u32 1, .int .u32 5] rfl (by (try simp only [List.map_toArray, List.map_cons, List.map_nil]); first | done | rfl | (simp only [List.length_drop, List.length_take]; rfl)) ?_; (with_reducible refine (q7z.calls 1 5 t1 _ A1.out).mono ?_); rintro e w' ⟨rfl, ⟨nd, rfl⟩⟩; refine ⟨_, rfl, ?_⟩) | ((with_reducible refine gate_callee (f := 18) rfl ?_); refine goesL_ (some 7) rfl rfl Try.func18 (by kernel_rfl) rfl #[.int .u32 9, .int .u32 9] rfl (by (try simp only [List.map_toArray, List.map_cons, List.map_nil]); first | done | rfl | (simp only [List.length_drop, List.length_take]; rfl)) ?_; (with_reducible refine (q7z.calls 9 9 t2 _ A2.out).mono ?_); rintro e w' ⟨rfl, ⟨nd, rfl⟩⟩; refine ⟨_, rfl, ?_⟩) | ((with_reducible refine gate_callee (f := 18) rfl ?_); refine goesL_ (some 9) rfl rfl Try.func18 (by kernel_rfl) rfl #[.int .u32 3, .int .u32 0] rfl (by (try simp only [List.map_toArray, List.map_cons, List.map_nil]); first | done | rfl | (simp only [List.length_drop, List.length_take]; rfl)) ?_; (with_reducible refine (q7z.calls 3 0 t3 _ A3.out).mono ?_); rintro e w' ⟨rfl, ⟨nd, rfl⟩⟩; refine ⟨_, rfl, ?_⟩) | ((with_reducible refine gate_callee (f := 18) rfl ?_); refine goesL_ (some 10) rfl rfl Try.func18 (by kernel_rfl) rfl #[.int .u32 20, .int .u32 6] rfl (by (try simp only [List.map_toArray, List.map_cons, List.map_nil]); first | done | rfl | (simp only [List.length_drop, List.length_take]; rfl)) ?_; (with_reducible refine (q7z.calls 20 6 t4 _ A4.out).mono ?_); rintro e w' ⟨rfl, ⟨nd, rfl⟩⟩; refine ⟨_, rfl, ?_⟩) | ((with_reducible refine gate_callee (f := 9) rfl ?_); refine goesL_ (some 12) rfl rfl Try.func9 (by kernel_rfl) rfl #[.agg #[.int .u32 t1, .int .u32 t2], .agg #[.int .u32 t3, .int .u32 t4]] rfl (by (try simp only [List.map_toArray, List.map_cons, List.map_nil]); first | done | rfl | (simp only [List.length_drop, List.length_take]; rfl)) ?_; (with_reducible refine (plane_Meet.calls t1 t2 t3 t4 t5 t6 true _ A5.out).mono ?_); rintro e w34 ⟨rfl, hb⟩; refine ⟨_, rfl, ?_⟩; have n0_ := Aside0.mk (below_step (by repeat (first | (with_reducible first | exact HB.out | apply below_alloc | apply pw_below_drewN | apply below_drew1) | exact HB.out)) hb); clear HB; have HB := n0_; clear n0_; (try clear hb); (try clear hb2); (try clear hk); (try clear hi)) | ((with_reducible refine gate_dst (N := 1) rfl ?_); (try (refine gate_guard (by rfl) ?_; dsimp only)); refine box_event ?hg (N := 1) ?hd (cs := #[.int .u32 0, .int .u32 0]) (t := 24) ?hr ?_; (case hd => rfl); (case hg => rfl); (case hr => first | (go_simp; done) | (go_simp; rfl)); intro gb8 hg w35 hbox hb; have n0_ := Aside0.mk (below_step (by repeat (first | (with_reducible first | exact HB.out | apply below_alloc | apply pw_below_drewN | apply below_drew1) | exact HB.out)) hb); have n1_ := Aside0.mk (hbox); have n2_ := Aside0.mk ((by rw [hg]; exact (below_size (by repeat (first | (with_reducible first | exact HB.out | apply below_alloc | apply pw_below_drewN | apply below_drew1) | exact HB.out))) : w.heap.size ≤ gb8)); have n3_ := Aside0.mk ((by rw [hg]; exact (below_size (by repeat (first | (with_reducible first | exact HB.out | apply below_alloc | apply pw_below_drewN | apply below_drew1) | exact HB.out))) : w.heap.size ≤ gb8)); clear HB; have HB := n0_; have BK8 := n1_; have GW8 := n2_; have GE8 := n3_; clear n0_ n1_ n2_ n3_; clear hb hbox hg; have hcz36_0 : w35.cell? ⟨gb8, 0, none⟩ = some (.int .u32 0) := (blk_cell BK8.out 0).trans rfl; have hcz36_1 : w35.cell? ⟨gb8, 1, none⟩ = some (.int .u32 0) := (blk_cell BK8.out 1).trans rfl; have hfz36_0 := blk_frozen BK8.out 0; have hfz36_1 := blk_frozen BK8.out 1) | ((with_reducible refine gate_callee (f := 18) rfl ?_); refine goesL_ (some 16) rfl rfl Try.func18 (by kernel_rfl) rfl #[.int .u32 1, .int .u32 1] rfl (by (try simp only [List.map_toArray, List.map_cons, List.map_nil]); first | done | rfl | (simp only [List.length_drop, List.length_take]; rfl)) ?_; (with_reducible refine (q7z.calls 1 1 t9 _ A6.out).mono ?_); rintro e w' ⟨rfl, ⟨nd, rfl⟩⟩; refine ⟨_, rfl, ?_⟩) | ((with_reducible refine gate_callee (f := 18) rfl ?_); refine goesL_ (some 17) rfl rfl Try.func18 (by kernel_rfl) rfl #[.int .u32 1, .int .u32 2] rfl (by (try simp only [List.map_toArray, List.map_cons, List.map_nil]); first | done | rfl | (simp only [List.length_drop, List.length_take]; rfl)) ?_; (with_reducible refine (q7z.calls 1 2 t10 _ A7.out).mono ?_); rintro e w' ⟨rfl, ⟨nd, rfl⟩⟩; refine ⟨_, rfl, ?_⟩) | ((with_reducible refine gate_dst (N := 19) rfl ?_); (try (refine gate_guard (by rfl) ?_; dsimp only)); refine Kd.R_lit k24 _ 24 ?hg (N := 19) ?hd (xs := ([(⟨t9, t10⟩ : S24)] : List (S24))) (inner := [.int .u32 t9, .int .u32 t10]) (ok := fun _ => True) (okp := fun _ => True) ?hr ?hp (fun _ hk => hk) trivial (Below.refl _ _) (Nat.le_refl _) (by simp) ?_; (case hd => rfl); (case hg => rfl); (case hr => first | (go_simp; done) | (go_simp; rfl)); (case hp => exact (Reps.c2 (show Kd.M k24 _ _ _ (⟨t9, t10⟩ : S24) [.int .u32 t9, .int .u32 t10] from (k24_mkM _ _ _ (⟨t9, t10⟩ : S24) )) (Reps.none _ _))); intro v12 w37 ho38 hb hg_ hnew_; clear hg_ hnew_; (first | rw [← Ny11.out] at ho38 | (simp only [Int.reduceToNat] at ho38; rw [← Ny11.out] at ho38)); have n0_ := Aside0.mk (Kd.R_lower (Kd.R_newB ho38 (g := gb8) (o := .cells #[.int .u32 t5, .int .u32 t6] 24 (0, 0)) (by (with_reducible repeat (first | refine blk_drewN ?_ _ | refine blk_drew ?_ | refine blk_alloc ?_ _)); refine blk_put (cs := #[.int .u32 t5, .int .u32 0]) ?_ 1 _ rfl; (with_reducible repeat (first | refine blk_drewN ?_ _ | refine blk_drew ?_ | refine blk_alloc ?_ _)); refine blk_put (cs := #[.int .u32 0, .int .u32 0]) ?_ 0 _ rfl; (with_reducible repeat (first | refine blk_drewN ?_ _ | refine blk_drew ?_ | refine blk_alloc ?_ _)); exact BK8.out)) (below_size (by repeat (first | (with_reducible first | exact HB.out | apply below_alloc | apply pw_below_drewN | apply below_drew1 | refine below_set ?_ GE8.out) | exact HB.out)))); have n1_ := Aside0.mk (blk_below (g := gb8) (o := .cells #[.int .u32 t5, .int .u32 t6] 24 (0, 0)) (by (with_reducible repeat (first | refine blk_drewN ?_ _ | refine blk_drew ?_ | refine blk_alloc ?_ _)); refine blk_put (cs := #[.int .u32 t5, .int .u32 0]) ?_ 1 _ rfl; (with_reducible repeat (first | refine blk_drewN ?_ _ | refine blk_drew ?_ | refine blk_alloc ?_ _)); refine blk_put (cs := #[.int .u32 0, .int .u32 0]) ?_ 0 _ rfl; (with_reducible repeat (first | refine blk_drewN ?_ _ | refine blk_drew ?_ | refine blk_alloc ?_ _)); exact BK8.out) hb); have n2_ := Aside0.mk (below_step (by repeat (first | (with_reducible first | exact HB.out | apply below_alloc | apply pw_below_drewN | apply below_drew1 | refine below_set ?_ GE8.out) | exact HB.out)) hb); clear BK8; clear HB; have HO13 := n0_; have BK8 := n1_; have HB := n2_; clear n0_ n1_ n2_; clear hb ho38; obtain ⟨Ao39, co39, eo39⟩ := Kd.R_slice HO13.out; subst eo39) | ((with_reducible refine gate_callee (f := 12) rfl ?_); refine goesL_ (some 20) rfl rfl Try.func12 (by kernel_rfl) rfl #[.slice Ao39 y11.length co39] rfl (by (try simp only [List.map_toArray, List.map_cons, List.map_nil]); first | done | rfl | (simp only [List.length_drop, List.length_take]; rfl)) ?_; (with_reducible refine (plane_Cells.calls k _ _ y11 t14 t15 _ ?side1 ?side2 A8.out).mono ?_); (case side1 => repeat (first | exact (Kd.R_reads' HO13.out).2.2 | (with_reducible refine Kd.C_alloc ?_ _) | (with_reducible refine Kd.C_drewN ?_ _) | (with_reducible refine Kd.C_drew ?_))); (case side2 => exact (Kd.R_reads' HO13.out).2.1); rintro e w40 ⟨v16, rfl, ho0, hb⟩; refine ⟨_, rfl, ?_⟩; have n0_ := Aside0.mk (Kd.R_below (by (with_reducible repeat (first | apply Kd.R_alloc | apply Kd.R_drewN | apply Kd.R_drew)); exact HO13.out) hb); have n1_ := Aside0.mk (Kd.R_lower ho0 (below_size (by repeat (first | (with_reducible first | exact HB.out | apply below_alloc | apply pw_below_drewN | apply below_drew1 | refine below_set ?_ GE8.out) | exact HB.out)))); have n2_ := Aside0.mk (blk_below (g := gb8) (o := .cells #[.int .u32 t5, .int .u32 t6] 24 (0, 0)) (by (with_reducible repeat (first | refine blk_drewN ?_ _ | refine blk_drew ?_ | refine blk_alloc ?_ _)); exact BK8.out) hb); have n3_ := Aside0.mk (below_step (by repeat (first | (with_reducible first | exact HB.out | apply below_alloc | apply pw_below_drewN | apply below_drew1 | refine below_set ?_ GE8.out) | exact HB.out)) hb); clear HO13; clear BK8; clear HB; have HO13 := n0_; have HO17 := n1_; have BK8 := n2_; have HB := n3_; clear n0_ n1_ n2_ n3_; (try clear hb); (try clear hb2); (try clear hk); (try clear hi); (try clear ho0)))
     have n0_ := Aside0.mk (Kd.R_drew HO13.out)
     have n1_ := Aside0.mk (Kd.R_drew HO17.out)
     have n2_ := Aside0.mk (blk_drew BK8.out)
     have n3_ := Aside0.mk (below_drew1 HB.out)
     clear HO13
     clear HO17
     clear BK8
     clear HB
     have HO13 := n0_
     have HO17 := n1_
     have BK8 := n2_
     have HB := n3_
     clear n0_ n1_ n2_ n3_
     refine start_ (n := 26) (S := fun w' => w'.cell? ⟨gb8, 0, none⟩ = some (.int .u32 t5) ∧ w'.cell? ⟨gb8, 1, none⟩ = some (.int .u32 t6)) (ds := []) #[false, false, false, false, false, false, false, false, false, false, false, false, false, false, false, false, false, false, false, false, false, false, false, false, false, false] (by kernel_rfl) rfl rfl ⟨(blk_cell BK8.out 0).trans rfl, (blk_cell BK8.out 1).trans rfl⟩ (fun hHeld => ?_); refine with_tabW q9z.tab3 q9z.bits3 (fun HT_ HW_ => ?_)
     generalize w40.drew = w41 at HO13 HO17 BK8 HB hHeld ⊢
     refine one_ (i := 0) (N := some 23) #[true, false, false, false, false, false, false, false, false, false, false, false, false, false, false, false, false, false, false, false, false, false, false, false, false, false] rfl rfl (one_of HT_.out (by kernel_rfl)) (by decide) (fun K hK => ?_)
     refine goes_ Try.func18 (by kernel_rfl) rfl #[.int .u32 65000, .int .u32 0] (by rfl) rfl rfl (by (try simp only [List.map_toArray, List.map_cons, List.map_nil]); first | done | rfl | (simp only [List.length_drop, List.length_take]; rfl)) ?_
     with_reducible refine (q7z.calls 65000 0 t18 _ A9.out).mono ?_
     rintro e w' ⟨rfl, ⟨nd, rfl⟩⟩
     refine ⟨_, rfl, ?_⟩
     refine hK.out _ _ ⟨(blk_cell BK8.out 0).trans rfl, (blk_cell BK8.out 1).trans rfl⟩ (fun hHeld => ?_)
     clear hK K
     refine norm_ (a' := ?_) ?_ ?_
     rotate_left
     ·
      show Act.put _ (some 23) _ = _
      simp only [Act.put, List.setIfInBounds_toArray, List.set_cons_zero, List.set_cons_succ, i64_w, i32_w, IntKind.wrap_u32]
      rfl
     refine one_ (i := 1) (N := some 24) #[true, true, false, false, false, false, false, false, false, false, false, false, false, false, false, false, false, false, false, false, false, false, false, false, false, false] rfl rfl (one_of HT_.out (by kernel_rfl)) (by decide) (fun K hK => ?_)
     refine goes_ Try.func18 (by kernel_rfl) rfl #[.int .u32 65000, .int .u32 65535] (by rfl) rfl rfl (by (try simp only [List.map_toArray, List.map_cons, List.map_nil]); first | done | rfl | (simp only [List.length_drop, List.length_take]; rfl)) ?_
     with_reducible refine (q7z.calls 65000 65535 t19 _ A10.out).mono ?_
     rintro e w' ⟨rfl, ⟨nd, rfl⟩⟩
     refine ⟨_, rfl, ?_⟩
     refine hK.out _ _ ⟨(blk_cell BK8.out 0).trans rfl, (blk_cell BK8.out 1).trans rfl⟩ (fun hHeld => ?_)
     clear hK K
     refine norm_ (a' := ?_) ?_ ?_
     rotate_left
     ·
      show Act.put _ (some 24) _ = _
      simp only [Act.put, List.setIfInBounds_toArray, List.set_cons_zero, List.set_cons_succ, i64_w, i32_w, IntKind.wrap_u32]
      rfl
     refine pure_ (i := 2) (N := some 25) (v := ?_) (a' := ?_) #[true, true, true, false, false, false, false, false, false, false, false, false, false, false, false, false, false, false, false, false, false, false, false, false, false, false] rfl rfl (any_of HT_.out (by kernel_rfl)) (fun _ _ _ h => h) (Or.inl ⟨by rfl, ?_⟩) ?_ ?_
     rotate_left
     ·
      intro w'
      go_simp
      with_reducible rfl
     rotate_left
     ·
      simp only [Act.put, List.setIfInBounds_toArray, List.set_cons_zero, List.set_cons_succ, i64_w, i32_w, IntKind.wrap_u32]
      rfl
     refine one_ (i := 3) (N := some 26) #[true, true, true, true, false, false, false, false, false, false, false, false, false, false, false, false, false, false, false, false, false, false, false, false, false, false] rfl rfl (one_of HT_.out (by kernel_rfl)) (by decide) (fun K hK => ?_)
     refine goes_ Try.func18 (by kernel_rfl) rfl #[.int .u32 65000, .int .u32 7] (by rfl) rfl rfl (by (try simp only [List.map_toArray, List.map_cons, List.map_nil]); first | done | rfl | (simp only [List.length_drop, List.length_take]; rfl)) ?_
     with_reducible refine (q7z.calls 65000 7 t20 _ A11.out).mono ?_
     rintro e w' ⟨rfl, ⟨nd, rfl⟩⟩
     refine ⟨_, rfl, ?_⟩
     refine hK.out _ _ ⟨(blk_cell BK8.out 0).trans rfl, (blk_cell BK8.out 1).trans rfl⟩ (fun hHeld => ?_)
     clear hK K
     refine norm_ (a' := ?_) ?_ ?_
     rotate_left
     ·
      show Act.put _ (some 26) _ = _
      simp only [Act.put, List.setIfInBounds_toArray, List.set_cons_zero, List.set_cons_succ, i64_w, i32_w, IntKind.wrap_u32]
      rfl
     refine one_ (i := 4) (N := some 27) #[true, true, true, true, true, false, false, false, false, false, false, false, false, false, false, false, false, false, false, false, false, false, false, false, false, false] rfl rfl (one_of HT_.out (by kernel_rfl)) (by decide) (fun K hK => ?_)
     refine goes_ Try.func11 (by kernel_rfl) rfl #[.agg #[.int .u32 t18, .int .u32 t19], .int .u32 t20] (by rfl) rfl rfl (by (try simp only [List.map_toArray, List.map_cons, List.map_nil]); first | done | rfl | (simp only [List.length_drop, List.length_take]; rfl)) ?_
     with_reducible refine (plane_In.calls t18 t19 t20 true _ A12.out).mono ?_
     rintro e w42 ⟨rfl, hb⟩
     refine ⟨_, rfl, ?_⟩
     have n0_ := Aside0.mk (Kd.R_below (by (with_reducible repeat (first | apply Kd.R_alloc | apply Kd.R_drewN | apply Kd.R_drew)); exact HO13.out) hb)
     have n1_ := Aside0.mk (Kd.R_below (by (with_reducible repeat (first | apply Kd.R_alloc | apply Kd.R_drewN | apply Kd.R_drew)); exact HO17.out) hb)
     have n2_ := Aside0.mk (blk_below (g := gb8) (o := .cells #[.int .u32 t5, .int .u32 t6] 24 (0, 0)) (by (with_reducible repeat (first | refine blk_drewN ?_ _ | refine blk_drew ?_ | refine blk_alloc ?_ _)); exact BK8.out) hb)
     have n3_ := Aside0.mk (below_step (by repeat (first | (with_reducible first | exact HB.out | apply below_alloc | apply pw_below_drewN | apply below_drew1 | refine below_set ?_ GE8.out) | exact HB.out)) hb)
     clear HO13
     clear HO17
     clear BK8
     clear HB
     have HO13 := n0_
     have HO17 := n1_
     have BK8 := n2_
     have HB := n3_
     clear n0_ n1_ n2_ n3_
     (try clear hb)
     (try clear hb2)
     (try clear hk)
     (try clear hi)
     refine hK.out _ _ ⟨(blk_cell BK8.out 0).trans rfl, (blk_cell BK8.out 1).trans rfl⟩ (fun hHeld => ?_)
     clear hK K
     refine norm_ (a' := ?_) ?_ ?_
     rotate_left
     ·
      show Act.put _ (some 27) _ = _
      simp only [Act.put, List.setIfInBounds_toArray, List.set_cons_zero, List.set_cons_succ, i64_w, i32_w, IntKind.wrap_u32]
      rfl
     refine pure_ (i := 5) (N := some 28) (v := ?_) (a' := ?_) #[true, true, true, true, true, true, false, false, false, false, false, false, false, false, false, false, false, false, false, false, false, false, false, false, false, false] rfl rfl (any_of HT_.out (by kernel_rfl)) (fun _ _ _ h => h) (Or.inl ⟨by rfl, ?_⟩) ?_ ?_
     rotate_left
     ·
      intro w'
      go_simp
      with_reducible rfl
     rotate_left
     ·
      simp only [Act.put, List.setIfInBounds_toArray, List.set_cons_zero, List.set_cons_succ, i64_w, i32_w, IntKind.wrap_u32]
      rfl
     refine pure_ (i := 6) (N := some 29) (v := ?_) (a' := ?_) #[true, true, true, true, true, true, true, false, false, false, false, false, false, false, false, false, false, false, false, false, false, false, false, false, false, false] rfl rfl (any_of HT_.out (by kernel_rfl)) (fun _ _ _ h => h) (Or.inl ⟨by rfl, ?_⟩) ?_ ?_
     rotate_left
     ·
      intro w'
      go_simp
      with_reducible rfl
     rotate_left
     ·
      simp only [Act.put, List.setIfInBounds_toArray, List.set_cons_zero, List.set_cons_succ, i64_w, i32_w, IntKind.wrap_u32]
      rfl
     refine pure_ (i := 7) (N := some 30) (v := ?_) (a' := ?_) #[true, true, true, true, true, true, true, true, false, false, false, false, false, false, false, false, false, false, false, false, false, false, false, false, false, false] rfl rfl (any_of HT_.out (by kernel_rfl)) (fun _ _ _ h => h) (Or.inl ⟨by rfl, ?_⟩) ?_ ?_
     rotate_left
     ·
      intro w'
      go_simp
      with_reducible rfl
     rotate_left
     ·
      simp only [Act.put, List.setIfInBounds_toArray, List.set_cons_zero, List.set_cons_succ, i64_w, i32_w, IntKind.wrap_u32]
      rfl
     refine pure_ (i := 8) (N := some 31) (v := ?_) (a' := ?_) #[true, true, true, true, true, true, true, true, true, false, false, false, false, false, false, false, false, false, false, false, false, false, false, false, false, false] rfl rfl (any_of HT_.out (by kernel_rfl)) (fun _ _ _ h => h) (Or.inl ⟨by rfl, ?_⟩) ?_ ?_
     rotate_left
     ·
      intro w'
      go_simp
      with_reducible rfl
     rotate_left
     ·
      simp only [Act.put, List.setIfInBounds_toArray, List.set_cons_zero, List.set_cons_succ, i64_w, i32_w, IntKind.wrap_u32]
      rfl
     refine take_ (i := 9) (N := some 32) (v := ?_) (a' := ?_) #[true, true, true, true, true, true, true, true, true, true, false, false, false, false, false, false, false, false, false, false, false, false, false, false, false, false] rfl rfl (take_ofW HT_.out HW_.out (by kernel_rfl)) (fun _ _ _ h => h) (Or.inl ⟨by rfl, ?_⟩) hHeld ?_ ?_
     rotate_left
     ·
      rintro w' ⟨s0, s1⟩
      go_simp
      with_reducible rfl
     rotate_left
     ·
      simp only [Act.put, List.setIfInBounds_toArray, List.set_cons_zero, List.set_cons_succ, i64_w, i32_w, IntKind.wrap_u32]
      rfl
     refine one_ (i := 10) (N := some 33) #[true, true, true, true, true, true, true, true, true, true, true, false, false, false, false, false, false, false, false, false, false, false, false, false, false, false] rfl rfl (one_of HT_.out (by kernel_rfl)) (by decide) (fun K hK => ?_)
     refine goes_ Try.func18 (by kernel_rfl) rfl #[.int .u32 3, .int .u32 5] (by rfl) rfl rfl (by (try simp only [List.map_toArray, List.map_cons, List.map_nil]); first | done | rfl | (simp only [List.length_drop, List.length_take]; rfl)) ?_
     with_reducible refine (q7z.calls 3 5 t22 _ A15.out).mono ?_
     rintro e w' ⟨rfl, ⟨nd, rfl⟩⟩
     refine ⟨_, rfl, ?_⟩
     refine hK.out _ _ ⟨(blk_cell BK8.out 0).trans rfl, (blk_cell BK8.out 1).trans rfl⟩ (fun hHeld => ?_)
     clear hK K
     refine norm_ (a' := ?_) ?_ ?_
     rotate_left
     ·
      show Act.put _ (some 33) _ = _
      simp only [Act.put, List.setIfInBounds_toArray, List.set_cons_zero, List.set_cons_succ, i64_w, i32_w, IntKind.wrap_u32]
      rfl
     refine one_ (i := 11) (N := some 34) #[true, true, true, true, true, true, true, true, true, true, true, true, false, false, false, false, false, false, false, false, false, false, false, false, false, false] rfl rfl (one_of HT_.out (by kernel_rfl)) (by decide) (fun K hK => ?_)
     refine goes_ Try.func18 (by kernel_rfl) rfl #[.int .u32 9, .int .u32 6] (by rfl) rfl rfl (by (try simp only [List.map_toArray, List.map_cons, List.map_nil]); first | done | rfl | (simp only [List.length_drop, List.length_take]; rfl)) ?_
     with_reducible refine (q7z.calls 9 6 t23 _ A16.out).mono ?_
     rintro e w' ⟨rfl, ⟨nd, rfl⟩⟩
     refine ⟨_, rfl, ?_⟩
     refine hK.out _ _ ⟨(blk_cell BK8.out 0).trans rfl, (blk_cell BK8.out 1).trans rfl⟩ (fun hHeld => ?_)
     clear hK K
     refine norm_ (a' := ?_) ?_ ?_
     rotate_left
     ·
      show Act.put _ (some 34) _ = _
      simp only [Act.put, List.setIfInBounds_toArray, List.set_cons_zero, List.set_cons_succ, i64_w, i32_w, IntKind.wrap_u32]
      rfl
     refine pure_ (i := 12) (N := some 35) (v := ?_) (a' := ?_) #[true, true, true, true, true, true, true, true, true, true, true, true, true, false, false, false, false, false, false, false, false, false, false, false, false, false] rfl rfl (any_of HT_.out (by kernel_rfl)) (fun _ _ _ h => h) (Or.inl ⟨by rfl, ?_⟩) ?_ ?_
     rotate_left
     ·
      intro w'
      go_simp
      with_reducible rfl
     rotate_left
     ·
      simp only [Act.put, List.setIfInBounds_toArray, List.set_cons_zero, List.set_cons_succ, i64_w, i32_w, IntKind.wrap_u32]
      rfl
     refine pure_ (i := 13) (N := some 36) (v := ?_) (a' := ?_) #[true, true, true, true, true, true, true, true, true, true, true, true, true, true, false, false, false, false, false, false, false, false, false, false, false, false] rfl rfl (any_of HT_.out (by kernel_rfl)) (fun _ _ _ h => h) (Or.inl ⟨by rfl, ?_⟩) ?_ ?_
     rotate_left
     ·
      intro w'
      go_simp
      with_reducible rfl
     rotate_left
     ·
      simp only [Act.put, List.setIfInBounds_toArray, List.set_cons_zero, List.set_cons_succ, i64_w, i32_w, IntKind.wrap_u32]
      rfl
     refine pure_ (i := 14) (N := some 37) (v := ?_) (a' := ?_) #[true, true, true, true, true, true, true, true, true, true, true, true, true, true, true, false, false, false, false, false, false, false, false, false, false, false] rfl rfl (any_of HT_.out (by kernel_rfl)) (fun _ _ _ h => h) (Or.inl ⟨by rfl, ?_⟩) ?_ ?_
     rotate_left
     ·
      intro w'
      go_simp
      with_reducible rfl
     rotate_left
     ·
      simp only [Act.put, List.setIfInBounds_toArray, List.set_cons_zero, List.set_cons_succ, i64_w, i32_w, IntKind.wrap_u32]
      rfl
     refine pure_ (i := 15) (N := some 38) (v := ?_) (a' := ?_) #[true, true, true, true, true, true, true, true, true, true, true, true, true, true, true, true, false, false, false, false, false, false, false, false, false, false] rfl rfl (any_of HT_.out (by kernel_rfl)) (fun _ _ _ h => h) (Or.inl ⟨by rfl, ?_⟩) ?_ ?_
     rotate_left
     ·
      intro w'
      go_simp
      with_reducible rfl
     rotate_left
     ·
      simp only [Act.put, List.setIfInBounds_toArray, List.set_cons_zero, List.set_cons_succ, i64_w, i32_w, IntKind.wrap_u32]
      rfl
     refine pure_ (i := 16) (N := some 39) (v := ?_) (a' := ?_) #[true, true, true, true, true, true, true, true, true, true, true, true, true, true, true, true, true, false, false, false, false, false, false, false, false, false] rfl rfl (any_of HT_.out (by kernel_rfl)) (fun _ _ _ h => h) (Or.inl ⟨by rfl, ?_⟩) ?_ ?_
     rotate_left
     ·
      intro w'
      go_simp
      with_reducible rfl
     rotate_left
     ·
      simp only [Act.put, List.setIfInBounds_toArray, List.set_cons_zero, List.set_cons_succ, i64_w, i32_w, IntKind.wrap_u32]
      rfl
     refine pure_ (i := 17) (N := some 40) (v := ?_) (a' := ?_) #[true, true, true, true, true, true, true, true, true, true, true, true, true, true, true, true, true, true, false, false, false, false, false, false, false, false] rfl rfl (any_of HT_.out (by kernel_rfl)) (fun _ _ _ h => h) (Or.inl ⟨by rfl, ?_⟩) ?_ ?_
     rotate_left
     ·
      intro w'
      go_simp
      with_reducible rfl
     rotate_left
     ·
      simp only [Act.put, List.setIfInBounds_toArray, List.set_cons_zero, List.set_cons_succ, i64_w, i32_w, IntKind.wrap_u32]
      rfl
     refine pure_ (i := 18) (N := some 41) (v := ?_) (a' := ?_) #[true, true, true, true, true, true, true, true, true, true, true, true, true, true, true, true, true, true, true, false, false, false, false, false, false, false] rfl rfl (any_of HT_.out (by kernel_rfl)) (fun _ _ _ h => h) (Or.inl ⟨by rfl, ?_⟩) ?_ ?_
     rotate_left
     ·
      intro w'
      go_simp
      with_reducible rfl
     rotate_left
     ·
      simp only [Act.put, List.setIfInBounds_toArray, List.set_cons_zero, List.set_cons_succ, i64_w, i32_w, IntKind.wrap_u32]
      rfl
     refine pure_ (i := 19) (N := some 42) (v := ?_) (a' := ?_) #[true, true, true, true, true, true, true, true, true, true, true, true, true, true, true, true, true, true, true, true, false, false, false, false, false, false] rfl rfl (any_of HT_.out (by kernel_rfl)) (fun _ _ _ h => h) (Or.inl ⟨by rfl, ?_⟩) ?_ ?_
     rotate_left
     ·
      intro w'
      go_simp
      with_reducible rfl
     rotate_left
     ·
      simp only [Act.put, List.setIfInBounds_toArray, List.set_cons_zero, List.set_cons_succ, i64_w, i32_w, IntKind.wrap_u32]
      rfl
     refine pure_ (i := 20) (N := some 43) (v := undef) (a' := ?_) #[true, true, true, true, true, true, true, true, true, true, true, true, true, true, true, true, true, true, true, true, true, false, false, false, false, false] rfl rfl (any_of HT_.out (by kernel_rfl)) (fun _ _ _ h => h) (Or.inr ⟨by rfl, rfl⟩) ?_ ?_
     rotate_left
     ·
      simp only [Act.put, List.setIfInBounds_toArray, List.set_cons_zero, List.set_cons_succ, i64_w, i32_w, IntKind.wrap_u32]
      rfl
     refine pure_ (i := 21) (N := some 44) (v := undef) (a' := ?_) #[true, true, true, true, true, true, true, true, true, true, true, true, true, true, true, true, true, true, true, true, true, true, false, false, false, false] rfl rfl (any_of HT_.out (by kernel_rfl)) (fun _ _ _ h => h) (Or.inr ⟨by rfl, rfl⟩) ?_ ?_
     rotate_left
     ·
      simp only [Act.put, List.setIfInBounds_toArray, List.set_cons_zero, List.set_cons_succ, i64_w, i32_w, IntKind.wrap_u32]
      rfl
     refine pure_ (i := 22) (N := some 45) (v := undef) (a' := ?_) #[true, true, true, true, true, true, true, true, true, true, true, true, true, true, true, true, true, true, true, true, true, true, true, false, false, false] rfl rfl (any_of HT_.out (by kernel_rfl)) (fun _ _ _ h => h) (Or.inr ⟨by rfl, rfl⟩) ?_ ?_
     rotate_left
     ·
      simp only [Act.put, List.setIfInBounds_toArray, List.set_cons_zero, List.set_cons_succ, i64_w, i32_w, IntKind.wrap_u32]
      rfl
     refine pure_ (i := 23) (N := some 46) (v := undef) (a' := ?_) #[true, true, true, true, true, true, true, true, true, true, true, true, true, true, true, true, true, true, true, true, true, true, true, true, false, false] rfl rfl (any_of HT_.out (by kernel_rfl)) (fun _ _ _ h => h) (Or.inr ⟨by rfl, rfl⟩) ?_ ?_
     rotate_left
     ·
      simp only [Act.put, List.setIfInBounds_toArray, List.set_cons_zero, List.set_cons_succ, i64_w, i32_w, IntKind.wrap_u32]
      rfl
     refine pure_ (i := 24) (N := some 47) (v := ?_) (a' := ?_) #[true, true, true, true, true, true, true, true, true, true, true, true, true, true, true, true, true, true, true, true, true, true, true, true, true, false] rfl rfl (any_of HT_.out (by kernel_rfl)) (fun _ _ _ h => h) (Or.inl ⟨by rfl, ?_⟩) ?_ ?_
     rotate_left
     ·
      intro w'
      go_simp
      with_reducible rfl
     rotate_left
     ·
      simp only [Act.put, List.setIfInBounds_toArray, List.set_cons_zero, List.set_cons_succ, i64_w, i32_w, IntKind.wrap_u32]
      rfl
     refine pure_ (i := 25) (N := some 0) (v := ?_) (a' := ?_) #[true, true, true, true, true, true, true, true, true, true, true, true, true, true, true, true, true, true, true, true, true, true, true, true, true, true] rfl rfl (any_of HT_.out (by kernel_rfl)) (fun _ _ _ h => h) (Or.inl ⟨by rfl, ?_⟩) ?_ ?_
     rotate_left
     ·
      intro w'
      go_simp
      with_reducible rfl
     rotate_left
     ·
      simp only [Act.put, List.setIfInBounds_toArray, List.set_cons_zero, List.set_cons_succ, i64_w, i32_w, IntKind.wrap_u32]
      rfl
     refine done_ (done_of HT_.out (by kernel_rfl)) ?_
     try go_wp2
     go_ret
     exact ⟨by first | rfl | (simp [errW_none, errW_some] <;> rfl) | (simp [*, errW_none, errW_some] <;> rfl), by repeat (first | (with_reducible first | exact HB.out | apply below_alloc | apply pw_below_drewN | apply below_drew1 | refine below_set ?_ GE8.out) | exact HB.out)⟩
   ·
    rw [if_neg c17] at H
    have c17b0 : (t5 == t22 && (t6 == t23)) = false := by simpa using c17
    (try (have c17b1 : decide (t5 = t22 && (t6 == t23)) = false := by simpa using c17))
    (try (have c17b2 : (t5 == t22 && (t6 == t23)) = false := by simpa using c17))
    (try (have c17b3 : ¬ (t5 = t22 && (t6 == t23)) := by simpa using c17))
    clear c17
    obtain rfl := Option.some.inj H
    go_enter Try.func8, Try.ntmps8
    try go_wp2_with (first | ((with_reducible refine gate_callee (f := 18) rfl ?_); refine goesL_ (some 6) rfl rfl Try.func18 (by kernel_rfl) rfl #[.int .u32 1, .int .u32 5] rfl (by (try simp only [List.map_toArray, List.map_cons, List.map_nil]); first | done | rfl | (simp only [List.length_drop, List.length_take]; rfl)) ?_; (with_reducible refine (q7z.calls 1 5 t1 _ A1.out).mono ?_); rintro e w' ⟨rfl, ⟨nd, rfl⟩⟩; refine ⟨_, rfl, ?_⟩) | ((with_reducible refine gate_callee (f := 18) rfl ?_); refine goesL_ (some 7) rfl rfl Try.func18 (by kernel_rfl) rfl #[.int .u32 9, .int .u32 9] rfl (by (try simp only [List.map_toArray, List.map_cons, List.map_nil]); first | done | rfl | (simp only [List.length_drop, List.length_take]; rfl)) ?_; (with_reducible refine (q7z.calls 9 9 t2 _ A2.out).mono ?_); rintro e w' ⟨rfl, ⟨nd, rfl⟩⟩; refine ⟨_, rfl, ?_⟩) | ((with_reducible refine gate_callee (f := 18) rfl ?_); refine goesL_ (some 9) rfl rfl Try.func18 (by kernel_rfl) rfl #[.int .u32 3, .int .u32 0] rfl (by (try simp only [List.map_toArray, List.map_cons, List.map_nil]); first | done | rfl | (simp only [List.length_drop, List.length_take]; rfl)) ?_; (with_reducible refine (q7z.calls 3 0 t3 _ A3.out).mono ?_); rintro e w' ⟨rfl, ⟨nd, rfl⟩⟩; refine ⟨_, rfl, ?_⟩) | ((with_reducible refine gate_callee (f := 18) rfl ?_); refine goesL_ (some 10) rfl rfl Try.func18 (by kernel_rfl) rfl #[.int .u32 20, .int .u32 6] rfl (by (try simp only [List.map_toArray, List.map_cons, List.map_nil]); first | done | rfl | (simp only [List.length_drop, List.length_take]; rfl)) ?_; (with_reducible refine (q7z.calls 20 6 t4 _ A4.out).mono ?_); rintro e w' ⟨rfl, ⟨nd, rfl⟩⟩; refine ⟨_, rfl, ?_⟩) | ((with_reducible refine gate_callee (f := 9) rfl ?_); refine goesL_ (some 12) rfl rfl Try.func9 (by kernel_rfl) rfl #[.agg #[.int .u32 t1, .int .u32 t2], .agg #[.int .u32 t3, .int .u32 t4]] rfl (by (try simp only [List.map_toArray, List.map_cons, List.map_nil]); first | done | rfl | (simp only [List.length_drop, List.length_take]; rfl)) ?_; (with_reducible refine (plane_Meet.calls t1 t2 t3 t4 t5 t6 true _ A5.out).mono ?_); rintro e w43 ⟨rfl, hb⟩; refine ⟨_, rfl, ?_⟩; have n0_ := Aside0.mk (below_step (by repeat (first | (with_reducible first | exact HB.out | apply below_alloc | apply pw_below_drewN | apply below_drew1) | exact HB.out)) hb); clear HB; have HB := n0_; clear n0_; (try clear hb); (try clear hb2); (try clear hk); (try clear hi)) | ((with_reducible refine gate_dst (N := 1) rfl ?_); (try (refine gate_guard (by rfl) ?_; dsimp only)); refine box_event ?hg (N := 1) ?hd (cs := #[.int .u32 0, .int .u32 0]) (t := 24) ?hr ?_; (case hd => rfl); (case hg => rfl); (case hr => first | (go_simp; done) | (go_simp; rfl)); intro gb8 hg w44 hbox hb; have n0_ := Aside0.mk (below_step (by repeat (first | (with_reducible first | exact HB.out | apply below_alloc | apply pw_below_drewN | apply below_drew1) | exact HB.out)) hb); have n1_ := Aside0.mk (hbox); have n2_ := Aside0.mk ((by rw [hg]; exact (below_size (by repeat (first | (with_reducible first | exact HB.out | apply below_alloc | apply pw_below_drewN | apply below_drew1) | exact HB.out))) : w.heap.size ≤ gb8)); have n3_ := Aside0.mk ((by rw [hg]; exact (below_size (by repeat (first | (with_reducible first | exact HB.out | apply below_alloc | apply pw_below_drewN | apply below_drew1) | exact HB.out))) : w.heap.size ≤ gb8)); clear HB; have HB := n0_; have BK8 := n1_; have GW8 := n2_; have GE8 := n3_; clear n0_ n1_ n2_ n3_; clear hb hbox hg; have hcz45_0 : w44.cell? ⟨gb8, 0, none⟩ = some (.int .u32 0) := (blk_cell BK8.out 0).trans rfl; have hcz45_1 : w44.cell? ⟨gb8, 1, none⟩ = some (.int .u32 0) := (blk_cell BK8.out 1).trans rfl; have hfz45_0 := blk_frozen BK8.out 0; have hfz45_1 := blk_frozen BK8.out 1) | ((with_reducible refine gate_callee (f := 18) rfl ?_); refine goesL_ (some 16) rfl rfl Try.func18 (by kernel_rfl) rfl #[.int .u32 1, .int .u32 1] rfl (by (try simp only [List.map_toArray, List.map_cons, List.map_nil]); first | done | rfl | (simp only [List.length_drop, List.length_take]; rfl)) ?_; (with_reducible refine (q7z.calls 1 1 t9 _ A6.out).mono ?_); rintro e w' ⟨rfl, ⟨nd, rfl⟩⟩; refine ⟨_, rfl, ?_⟩) | ((with_reducible refine gate_callee (f := 18) rfl ?_); refine goesL_ (some 17) rfl rfl Try.func18 (by kernel_rfl) rfl #[.int .u32 1, .int .u32 2] rfl (by (try simp only [List.map_toArray, List.map_cons, List.map_nil]); first | done | rfl | (simp only [List.length_drop, List.length_take]; rfl)) ?_; (with_reducible refine (q7z.calls 1 2 t10 _ A7.out).mono ?_); rintro e w' ⟨rfl, ⟨nd, rfl⟩⟩; refine ⟨_, rfl, ?_⟩) | ((with_reducible refine gate_dst (N := 19) rfl ?_); (try (refine gate_guard (by rfl) ?_; dsimp only)); refine Kd.R_lit k24 _ 24 ?hg (N := 19) ?hd (xs := ([(⟨t9, t10⟩ : S24)] : List (S24))) (inner := [.int .u32 t9, .int .u32 t10]) (ok := fun _ => True) (okp := fun _ => True) ?hr ?hp (fun _ hk => hk) trivial (Below.refl _ _) (Nat.le_refl _) (by simp) ?_; (case hd => rfl); (case hg => rfl); (case hr => first | (go_simp; done) | (go_simp; rfl)); (case hp => exact (Reps.c2 (show Kd.M k24 _ _ _ (⟨t9, t10⟩ : S24) [.int .u32 t9, .int .u32 t10] from (k24_mkM _ _ _ (⟨t9, t10⟩ : S24) )) (Reps.none _ _))); intro v12 w46 ho47 hb hg_ hnew_; clear hg_ hnew_; (first | rw [← Ny11.out] at ho47 | (simp only [Int.reduceToNat] at ho47; rw [← Ny11.out] at ho47)); have n0_ := Aside0.mk (Kd.R_lower (Kd.R_newB ho47 (g := gb8) (o := .cells #[.int .u32 t5, .int .u32 t6] 24 (0, 0)) (by (with_reducible repeat (first | refine blk_drewN ?_ _ | refine blk_drew ?_ | refine blk_alloc ?_ _)); refine blk_put (cs := #[.int .u32 t5, .int .u32 0]) ?_ 1 _ rfl; (with_reducible repeat (first | refine blk_drewN ?_ _ | refine blk_drew ?_ | refine blk_alloc ?_ _)); refine blk_put (cs := #[.int .u32 0, .int .u32 0]) ?_ 0 _ rfl; (with_reducible repeat (first | refine blk_drewN ?_ _ | refine blk_drew ?_ | refine blk_alloc ?_ _)); exact BK8.out)) (below_size (by repeat (first | (with_reducible first | exact HB.out | apply below_alloc | apply pw_below_drewN | apply below_drew1 | refine below_set ?_ GE8.out) | exact HB.out)))); have n1_ := Aside0.mk (blk_below (g := gb8) (o := .cells #[.int .u32 t5, .int .u32 t6] 24 (0, 0)) (by (with_reducible repeat (first | refine blk_drewN ?_ _ | refine blk_drew ?_ | refine blk_alloc ?_ _)); refine blk_put (cs := #[.int .u32 t5, .int .u32 0]) ?_ 1 _ rfl; (with_reducible repeat (first | refine blk_drewN ?_ _ | refine blk_drew ?_ | refine blk_alloc ?_ _)); refine blk_put (cs := #[.int .u32 0, .int .u32 0]) ?_ 0 _ rfl; (with_reducible repeat (first | refine blk_drewN ?_ _ | refine blk_drew ?_ | refine blk_alloc ?_ _)); exact BK8.out) hb); have n2_ := Aside0.mk (below_step (by repeat (first | (with_reducible first | exact HB.out | apply below_alloc | apply pw_below_drewN | apply below_drew1 | refine below_set ?_ GE8.out) | exact HB.out)) hb); clear BK8; clear HB; have HO13 := n0_; have BK8 := n1_; have HB := n2_; clear n0_ n1_ n2_; clear hb ho47; obtain ⟨Ao48, co48, eo48⟩ := Kd.R_slice HO13.out; subst eo48) | ((with_reducible refine gate_callee (f := 12) rfl ?_); refine goesL_ (some 20) rfl rfl Try.func12 (by kernel_rfl) rfl #[.slice Ao48 y11.length co48] rfl (by (try simp only [List.map_toArray, List.map_cons, List.map_nil]); first | done | rfl | (simp only [List.length_drop, List.length_take]; rfl)) ?_; (with_reducible refine (plane_Cells.calls k _ _ y11 t14 t15 _ ?side1 ?side2 A8.out).mono ?_); (case side1 => repeat (first | exact (Kd.R_reads' HO13.out).2.2 | (with_reducible refine Kd.C_alloc ?_ _) | (with_reducible refine Kd.C_drewN ?_ _) | (with_reducible refine Kd.C_drew ?_))); (case side2 => exact (Kd.R_reads' HO13.out).2.1); rintro e w49 ⟨v16, rfl, ho0, hb⟩; refine ⟨_, rfl, ?_⟩; have n0_ := Aside0.mk (Kd.R_below (by (with_reducible repeat (first | apply Kd.R_alloc | apply Kd.R_drewN | apply Kd.R_drew)); exact HO13.out) hb); have n1_ := Aside0.mk (Kd.R_lower ho0 (below_size (by repeat (first | (with_reducible first | exact HB.out | apply below_alloc | apply pw_below_drewN | apply below_drew1 | refine below_set ?_ GE8.out) | exact HB.out)))); have n2_ := Aside0.mk (blk_below (g := gb8) (o := .cells #[.int .u32 t5, .int .u32 t6] 24 (0, 0)) (by (with_reducible repeat (first | refine blk_drewN ?_ _ | refine blk_drew ?_ | refine blk_alloc ?_ _)); exact BK8.out) hb); have n3_ := Aside0.mk (below_step (by repeat (first | (with_reducible first | exact HB.out | apply below_alloc | apply pw_below_drewN | apply below_drew1 | refine below_set ?_ GE8.out) | exact HB.out)) hb); clear HO13; clear BK8; clear HB; have HO13 := n0_; have HO17 := n1_; have BK8 := n2_; have HB := n3_; clear n0_ n1_ n2_ n3_; (try clear hb); (try clear hb2); (try clear hk); (try clear hi); (try clear ho0)))
    have n0_ := Aside0.mk (Kd.R_drew HO13.out)
    have n1_ := Aside0.mk (Kd.R_drew HO17.out)
    have n2_ := Aside0.mk (blk_drew BK8.out)
    have n3_ := Aside0.mk (below_drew1 HB.out)
    clear HO13
    clear HO17
    clear BK8
    clear HB
    have HO13 := n0_
    have HO17 := n1_
    have BK8 := n2_
    have HB := n3_
    clear n0_ n1_ n2_ n3_
    refine start_ (n := 26) (S := fun w' => w'.cell? ⟨gb8, 0, none⟩ = some (.int .u32 t5) ∧ w'.cell? ⟨gb8, 1, none⟩ = some (.int .u32 t6)) (ds := []) #[false, false, false, false, false, false, false, false, false, false, false, false, false, false, false, false, false, false, false, false, false, false, false, false, false, false] (by kernel_rfl) rfl rfl ⟨(blk_cell BK8.out 0).trans rfl, (blk_cell BK8.out 1).trans rfl⟩ (fun hHeld => ?_); refine with_tabW q9z.tab3 q9z.bits3 (fun HT_ HW_ => ?_)
    generalize w49.drew = w50 at HO13 HO17 BK8 HB hHeld ⊢
    refine one_ (i := 0) (N := some 23) #[true, false, false, false, false, false, false, false, false, false, false, false, false, false, false, false, false, false, false, false, false, false, false, false, false, false] rfl rfl (one_of HT_.out (by kernel_rfl)) (by decide) (fun K hK => ?_)
    refine goes_ Try.func18 (by kernel_rfl) rfl #[.int .u32 65000, .int .u32 0] (by rfl) rfl rfl (by (try simp only [List.map_toArray, List.map_cons, List.map_nil]); first | done | rfl | (simp only [List.length_drop, List.length_take]; rfl)) ?_
    with_reducible refine (q7z.calls 65000 0 t18 _ A9.out).mono ?_
    rintro e w' ⟨rfl, ⟨nd, rfl⟩⟩
    refine ⟨_, rfl, ?_⟩
    refine hK.out _ _ ⟨(blk_cell BK8.out 0).trans rfl, (blk_cell BK8.out 1).trans rfl⟩ (fun hHeld => ?_)
    clear hK K
    refine norm_ (a' := ?_) ?_ ?_
    rotate_left
    ·
     show Act.put _ (some 23) _ = _
     simp only [Act.put, List.setIfInBounds_toArray, List.set_cons_zero, List.set_cons_succ, i64_w, i32_w, IntKind.wrap_u32]
     rfl
    refine one_ (i := 1) (N := some 24) #[true, true, false, false, false, false, false, false, false, false, false, false, false, false, false, false, false, false, false, false, false, false, false, false, false, false] rfl rfl (one_of HT_.out (by kernel_rfl)) (by decide) (fun K hK => ?_)
    refine goes_ Try.func18 (by kernel_rfl) rfl #[.int .u32 65000, .int .u32 65535] (by rfl) rfl rfl (by (try simp only [List.map_toArray, List.map_cons, List.map_nil]); first | done | rfl | (simp only [List.length_drop, List.length_take]; rfl)) ?_
    with_reducible refine (q7z.calls 65000 65535 t19 _ A10.out).mono ?_
    rintro e w' ⟨rfl, ⟨nd, rfl⟩⟩
    refine ⟨_, rfl, ?_⟩
    refine hK.out _ _ ⟨(blk_cell BK8.out 0).trans rfl, (blk_cell BK8.out 1).trans rfl⟩ (fun hHeld => ?_)
    clear hK K
    refine norm_ (a' := ?_) ?_ ?_
    rotate_left
    ·
     show Act.put _ (some 24) _ = _
     simp only [Act.put, List.setIfInBounds_toArray, List.set_cons_zero, List.set_cons_succ, i64_w, i32_w, IntKind.wrap_u32]
     rfl
    refine pure_ (i := 2) (N := some 25) (v := ?_) (a' := ?_) #[true, true, true, false, false, false, false, false, false, false, false, false, false, false, false, false, false, false, false, false, false, false, false, false, false, false] rfl rfl (any_of HT_.out (by kernel_rfl)) (fun _ _ _ h => h) (Or.inl ⟨by rfl, ?_⟩) ?_ ?_
    rotate_left
    ·
     intro w'
     go_simp
     with_reducible rfl
    rotate_left
    ·
     simp only [Act.put, List.setIfInBounds_toArray, List.set_cons_zero, List.set_cons_succ, i64_w, i32_w, IntKind.wrap_u32]
     rfl
    refine one_ (i := 3) (N := some 26) #[true, true, true, true, false, false, false, false, false, false, false, false, false, false, false, false, false, false, false, false, false, false, false, false, false, false] rfl rfl (one_of HT_.out (by kernel_rfl)) (by decide) (fun K hK => ?_)
    refine goes_ Try.func18 (by kernel_rfl) rfl #[.int .u32 65000, .int .u32 7] (by rfl) rfl rfl (by (try simp only [List.map_toArray, List.map_cons, List.map_nil]); first | done | rfl | (simp only [List.length_drop, List.length_take]; rfl)) ?_
    with_reducible refine (q7z.calls 65000 7 t20 _ A11.out).mono ?_
    rintro e w' ⟨rfl, ⟨nd, rfl⟩⟩
    refine ⟨_, rfl, ?_⟩
    refine hK.out _ _ ⟨(blk_cell BK8.out 0).trans rfl, (blk_cell BK8.out 1).trans rfl⟩ (fun hHeld => ?_)
    clear hK K
    refine norm_ (a' := ?_) ?_ ?_
    rotate_left
    ·
     show Act.put _ (some 26) _ = _
     simp only [Act.put, List.setIfInBounds_toArray, List.set_cons_zero, List.set_cons_succ, i64_w, i32_w, IntKind.wrap_u32]
     rfl
    refine one_ (i := 4) (N := some 27) #[true, true, true, true, true, false, false, false, false, false, false, false, false, false, false, false, false, false, false, false, false, false, false, false, false, false] rfl rfl (one_of HT_.out (by kernel_rfl)) (by decide) (fun K hK => ?_)
    refine goes_ Try.func11 (by kernel_rfl) rfl #[.agg #[.int .u32 t18, .int .u32 t19], .int .u32 t20] (by rfl) rfl rfl (by (try simp only [List.map_toArray, List.map_cons, List.map_nil]); first | done | rfl | (simp only [List.length_drop, List.length_take]; rfl)) ?_
    with_reducible refine (plane_In.calls t18 t19 t20 true _ A12.out).mono ?_
    rintro e w51 ⟨rfl, hb⟩
    refine ⟨_, rfl, ?_⟩
    have n0_ := Aside0.mk (Kd.R_below (by (with_reducible repeat (first | apply Kd.R_alloc | apply Kd.R_drewN | apply Kd.R_drew)); exact HO13.out) hb)
    have n1_ := Aside0.mk (Kd.R_below (by (with_reducible repeat (first | apply Kd.R_alloc | apply Kd.R_drewN | apply Kd.R_drew)); exact HO17.out) hb)
    have n2_ := Aside0.mk (blk_below (g := gb8) (o := .cells #[.int .u32 t5, .int .u32 t6] 24 (0, 0)) (by (with_reducible repeat (first | refine blk_drewN ?_ _ | refine blk_drew ?_ | refine blk_alloc ?_ _)); exact BK8.out) hb)
    have n3_ := Aside0.mk (below_step (by repeat (first | (with_reducible first | exact HB.out | apply below_alloc | apply pw_below_drewN | apply below_drew1 | refine below_set ?_ GE8.out) | exact HB.out)) hb)
    clear HO13
    clear HO17
    clear BK8
    clear HB
    have HO13 := n0_
    have HO17 := n1_
    have BK8 := n2_
    have HB := n3_
    clear n0_ n1_ n2_ n3_
    (try clear hb)
    (try clear hb2)
    (try clear hk)
    (try clear hi)
    refine hK.out _ _ ⟨(blk_cell BK8.out 0).trans rfl, (blk_cell BK8.out 1).trans rfl⟩ (fun hHeld => ?_)
    clear hK K
    refine norm_ (a' := ?_) ?_ ?_
    rotate_left
    ·
     show Act.put _ (some 27) _ = _
     simp only [Act.put, List.setIfInBounds_toArray, List.set_cons_zero, List.set_cons_succ, i64_w, i32_w, IntKind.wrap_u32]
     rfl
    refine pure_ (i := 5) (N := some 28) (v := ?_) (a' := ?_) #[true, true, true, true, true, true, false, false, false, false, false, false, false, false, false, false, false, false, false, false, false, false, false, false, false, false] rfl rfl (any_of HT_.out (by kernel_rfl)) (fun _ _ _ h => h) (Or.inl ⟨by rfl, ?_⟩) ?_ ?_
    rotate_left
    ·
     intro w'
     go_simp
     with_reducible rfl
    rotate_left
    ·
     simp only [Act.put, List.setIfInBounds_toArray, List.set_cons_zero, List.set_cons_succ, i64_w, i32_w, IntKind.wrap_u32]
     rfl
    refine pure_ (i := 6) (N := some 29) (v := ?_) (a' := ?_) #[true, true, true, true, true, true, true, false, false, false, false, false, false, false, false, false, false, false, false, false, false, false, false, false, false, false] rfl rfl (any_of HT_.out (by kernel_rfl)) (fun _ _ _ h => h) (Or.inl ⟨by rfl, ?_⟩) ?_ ?_
    rotate_left
    ·
     intro w'
     go_simp
     with_reducible rfl
    rotate_left
    ·
     simp only [Act.put, List.setIfInBounds_toArray, List.set_cons_zero, List.set_cons_succ, i64_w, i32_w, IntKind.wrap_u32]
     rfl
    refine pure_ (i := 7) (N := some 30) (v := ?_) (a' := ?_) #[true, true, true, true, true, true, true, true, false, false, false, false, false, false, false, false, false, false, false, false, false, false, false, false, false, false] rfl rfl (any_of HT_.out (by kernel_rfl)) (fun _ _ _ h => h) (Or.inl ⟨by rfl, ?_⟩) ?_ ?_
    rotate_left
    ·
     intro w'
     go_simp
     with_reducible rfl
    rotate_left
    ·
     simp only [Act.put, List.setIfInBounds_toArray, List.set_cons_zero, List.set_cons_succ, i64_w, i32_w, IntKind.wrap_u32]
     rfl
    refine pure_ (i := 8) (N := some 31) (v := ?_) (a' := ?_) #[true, true, true, true, true, true, true, true, true, false, false, false, false, false, false, false, false, false, false, false, false, false, false, false, false, false] rfl rfl (any_of HT_.out (by kernel_rfl)) (fun _ _ _ h => h) (Or.inl ⟨by rfl, ?_⟩) ?_ ?_
    rotate_left
    ·
     intro w'
     go_simp
     with_reducible rfl
    rotate_left
    ·
     simp only [Act.put, List.setIfInBounds_toArray, List.set_cons_zero, List.set_cons_succ, i64_w, i32_w, IntKind.wrap_u32]
     rfl
    refine take_ (i := 9) (N := some 32) (v := ?_) (a' := ?_) #[true, true, true, true, true, true, true, true, true, true, false, false, false, false, false, false, false, false, false, false, false, false, false, false, false, false] rfl rfl (take_ofW HT_.out HW_.out (by kernel_rfl)) (fun _ _ _ h => h) (Or.inl ⟨by rfl, ?_⟩) hHeld ?_ ?_
    rotate_left
    ·
     rintro w' ⟨s0, s1⟩
     go_simp
     with_reducible rfl
    rotate_left
    ·
     simp only [Act.put, List.setIfInBounds_toArray, List.set_cons_zero, List.set_cons_succ, i64_w, i32_w, IntKind.wrap_u32]
     rfl
    refine one_ (i := 10) (N := some 33) #[true, true, true, true, true, true, true, true, true, true, true, false, false, false, false, false, false, false, false, false, false, false, false, false, false, false] rfl rfl (one_of HT_.out (by kernel_rfl)) (by decide) (fun K hK => ?_)
    refine goes_ Try.func18 (by kernel_rfl) rfl #[.int .u32 3, .int .u32 5] (by rfl) rfl rfl (by (try simp only [List.map_toArray, List.map_cons, List.map_nil]); first | done | rfl | (simp only [List.length_drop, List.length_take]; rfl)) ?_
    with_reducible refine (q7z.calls 3 5 t22 _ A15.out).mono ?_
    rintro e w' ⟨rfl, ⟨nd, rfl⟩⟩
    refine ⟨_, rfl, ?_⟩
    refine hK.out _ _ ⟨(blk_cell BK8.out 0).trans rfl, (blk_cell BK8.out 1).trans rfl⟩ (fun hHeld => ?_)
    clear hK K
    refine norm_ (a' := ?_) ?_ ?_
    rotate_left
    ·
     show Act.put _ (some 33) _ = _
     simp only [Act.put, List.setIfInBounds_toArray, List.set_cons_zero, List.set_cons_succ, i64_w, i32_w, IntKind.wrap_u32]
     rfl
    refine one_ (i := 11) (N := some 34) #[true, true, true, true, true, true, true, true, true, true, true, true, false, false, false, false, false, false, false, false, false, false, false, false, false, false] rfl rfl (one_of HT_.out (by kernel_rfl)) (by decide) (fun K hK => ?_)
    refine goes_ Try.func18 (by kernel_rfl) rfl #[.int .u32 9, .int .u32 6] (by rfl) rfl rfl (by (try simp only [List.map_toArray, List.map_cons, List.map_nil]); first | done | rfl | (simp only [List.length_drop, List.length_take]; rfl)) ?_
    with_reducible refine (q7z.calls 9 6 t23 _ A16.out).mono ?_
    rintro e w' ⟨rfl, ⟨nd, rfl⟩⟩
    refine ⟨_, rfl, ?_⟩
    refine hK.out _ _ ⟨(blk_cell BK8.out 0).trans rfl, (blk_cell BK8.out 1).trans rfl⟩ (fun hHeld => ?_)
    clear hK K
    refine norm_ (a' := ?_) ?_ ?_
    rotate_left
    ·
     show Act.put _ (some 34) _ = _
     simp only [Act.put, List.setIfInBounds_toArray, List.set_cons_zero, List.set_cons_succ, i64_w, i32_w, IntKind.wrap_u32]
     rfl
    refine pure_ (i := 12) (N := some 35) (v := ?_) (a' := ?_) #[true, true, true, true, true, true, true, true, true, true, true, true, true, false, false, false, false, false, false, false, false, false, false, false, false, false] rfl rfl (any_of HT_.out (by kernel_rfl)) (fun _ _ _ h => h) (Or.inl ⟨by rfl, ?_⟩) ?_ ?_
    rotate_left
    ·
     intro w'
     go_simp
     with_reducible rfl
    rotate_left
    ·
     simp only [Act.put, List.setIfInBounds_toArray, List.set_cons_zero, List.set_cons_succ, i64_w, i32_w, IntKind.wrap_u32]
     rfl
    refine pure_ (i := 13) (N := some 36) (v := ?_) (a' := ?_) #[true, true, true, true, true, true, true, true, true, true, true, true, true, true, false, false, false, false, false, false, false, false, false, false, false, false] rfl rfl (any_of HT_.out (by kernel_rfl)) (fun _ _ _ h => h) (Or.inl ⟨by rfl, ?_⟩) ?_ ?_
    rotate_left
    ·
     intro w'
     go_simp
     with_reducible rfl
    rotate_left
    ·
     simp only [Act.put, List.setIfInBounds_toArray, List.set_cons_zero, List.set_cons_succ, i64_w, i32_w, IntKind.wrap_u32]
     rfl
    refine pure_ (i := 14) (N := some 37) (v := ?_) (a' := ?_) #[true, true, true, true, true, true, true, true, true, true, true, true, true, true, true, false, false, false, false, false, false, false, false, false, false, false] rfl rfl (any_of HT_.out (by kernel_rfl)) (fun _ _ _ h => h) (Or.inl ⟨by rfl, ?_⟩) ?_ ?_
    rotate_left
    ·
     intro w'
     go_simp
     with_reducible rfl
    rotate_left
    ·
     simp only [Act.put, List.setIfInBounds_toArray, List.set_cons_zero, List.set_cons_succ, i64_w, i32_w, IntKind.wrap_u32]
     rfl
    refine pure_ (i := 15) (N := some 38) (v := ?_) (a' := ?_) #[true, true, true, true, true, true, true, true, true, true, true, true, true, true, true, true, false, false, false, false, false, false, false, false, false, false] rfl rfl (any_of HT_.out (by kernel_rfl)) (fun _ _ _ h => h) (Or.inl ⟨by rfl, ?_⟩) ?_ ?_
    rotate_left
    ·
     intro w'
     go_simp
     with_reducible rfl
    rotate_left
    ·
     simp only [Act.put, List.setIfInBounds_toArray, List.set_cons_zero, List.set_cons_succ, i64_w, i32_w, IntKind.wrap_u32]
     rfl
    refine pure_ (i := 16) (N := some 39) (v := undef) (a' := ?_) #[true, true, true, true, true, true, true, true, true, true, true, true, true, true, true, true, true, false, false, false, false, false, false, false, false, false] rfl rfl (any_of HT_.out (by kernel_rfl)) (fun _ _ _ h => h) (Or.inr ⟨by rfl, rfl⟩) ?_ ?_
    rotate_left
    ·
     simp only [Act.put, List.setIfInBounds_toArray, List.set_cons_zero, List.set_cons_succ, i64_w, i32_w, IntKind.wrap_u32]
     rfl
    refine pure_ (i := 17) (N := some 40) (v := undef) (a' := ?_) #[true, true, true, true, true, true, true, true, true, true, true, true, true, true, true, true, true, true, false, false, false, false, false, false, false, false] rfl rfl (any_of HT_.out (by kernel_rfl)) (fun _ _ _ h => h) (Or.inr ⟨by rfl, rfl⟩) ?_ ?_
    rotate_left
    ·
     simp only [Act.put, List.setIfInBounds_toArray, List.set_cons_zero, List.set_cons_succ, i64_w, i32_w, IntKind.wrap_u32]
     rfl
    refine pure_ (i := 18) (N := some 41) (v := ?_) (a' := ?_) #[true, true, true, true, true, true, true, true, true, true, true, true, true, true, true, true, true, true, true, false, false, false, false, false, false, false] rfl rfl (any_of HT_.out (by kernel_rfl)) (fun _ _ _ h => h) (Or.inl ⟨by rfl, ?_⟩) ?_ ?_
    rotate_left
    ·
     intro w'
     go_simp
     with_reducible rfl
    rotate_left
    ·
     simp only [Act.put, List.setIfInBounds_toArray, List.set_cons_zero, List.set_cons_succ, i64_w, i32_w, IntKind.wrap_u32]
     rfl
    refine pure_ (i := 19) (N := some 42) (v := ?_) (a' := ?_) #[true, true, true, true, true, true, true, true, true, true, true, true, true, true, true, true, true, true, true, true, false, false, false, false, false, false] rfl rfl (any_of HT_.out (by kernel_rfl)) (fun _ _ _ h => h) (Or.inl ⟨by rfl, ?_⟩) ?_ ?_
    rotate_left
    ·
     intro w'
     go_simp
     with_reducible rfl
    rotate_left
    ·
     simp only [Act.put, List.setIfInBounds_toArray, List.set_cons_zero, List.set_cons_succ, i64_w, i32_w, IntKind.wrap_u32]
     rfl
    refine pure_ (i := 20) (N := some 43) (v := undef) (a' := ?_) #[true, true, true, true, true, true, true, true, true, true, true, true, true, true, true, true, true, true, true, true, true, false, false, false, false, false] rfl rfl (any_of HT_.out (by kernel_rfl)) (fun _ _ _ h => h) (Or.inr ⟨by rfl, rfl⟩) ?_ ?_
    rotate_left
    ·
     simp only [Act.put, List.setIfInBounds_toArray, List.set_cons_zero, List.set_cons_succ, i64_w, i32_w, IntKind.wrap_u32]
     rfl
    refine pure_ (i := 21) (N := some 44) (v := undef) (a' := ?_) #[true, true, true, true, true, true, true, true, true, true, true, true, true, true, true, true, true, true, true, true, true, true, false, false, false, false] rfl rfl (any_of HT_.out (by kernel_rfl)) (fun _ _ _ h => h) (Or.inr ⟨by rfl, rfl⟩) ?_ ?_
    rotate_left
    ·
     simp only [Act.put, List.setIfInBounds_toArray, List.set_cons_zero, List.set_cons_succ, i64_w, i32_w, IntKind.wrap_u32]
     rfl
    refine pure_ (i := 22) (N := some 45) (v := undef) (a' := ?_) #[true, true, true, true, true, true, true, true, true, true, true, true, true, true, true, true, true, true, true, true, true, true, true, false, false, false] rfl rfl (any_of HT_.out (by kernel_rfl)) (fun _ _ _ h => h) (Or.inr ⟨by rfl, rfl⟩) ?_ ?_
    rotate_left
    ·
     simp only [Act.put, List.setIfInBounds_toArray, List.set_cons_zero, List.set_cons_succ, i64_w, i32_w, IntKind.wrap_u32]
     rfl
    refine pure_ (i := 23) (N := some 46) (v := undef) (a' := ?_) #[true, true, true, true, true, true, true, true, true, true, true, true, true, true, true, true, true, true, true, true, true, true, true, true, false, false] rfl rfl (any_of HT_.out (by kernel_rfl)) (fun _ _ _ h => h) (Or.inr ⟨by rfl, rfl⟩) ?_ ?_
    rotate_left
    ·
     simp only [Act.put, List.setIfInBounds_toArray, List.set_cons_zero, List.set_cons_succ, i64_w, i32_w, IntKind.wrap_u32]
     rfl
    refine pure_ (i := 24) (N := some 47) (v := ?_) (a' := ?_) #[true, true, true, true, true, true, true, true, true, true, true, true, true, true, true, true, true, true, true, true, true, true, true, true, true, false] rfl rfl (any_of HT_.out (by kernel_rfl)) (fun _ _ _ h => h) (Or.inl ⟨by rfl, ?_⟩) ?_ ?_
    rotate_left
    ·
     intro w'
     go_simp
     with_reducible rfl
    rotate_left
    ·
     simp only [Act.put, List.setIfInBounds_toArray, List.set_cons_zero, List.set_cons_succ, i64_w, i32_w, IntKind.wrap_u32]
     rfl
    refine pure_ (i := 25) (N := some 0) (v := ?_) (a' := ?_) #[true, true, true, true, true, true, true, true, true, true, true, true, true, true, true, true, true, true, true, true, true, true, true, true, true, true] rfl rfl (any_of HT_.out (by kernel_rfl)) (fun _ _ _ h => h) (Or.inl ⟨by rfl, ?_⟩) ?_ ?_
    rotate_left
    ·
     intro w'
     go_simp
     with_reducible rfl
    rotate_left
    ·
     simp only [Act.put, List.setIfInBounds_toArray, List.set_cons_zero, List.set_cons_succ, i64_w, i32_w, IntKind.wrap_u32]
     rfl
    refine done_ (done_of HT_.out (by kernel_rfl)) ?_
    try go_wp2
    go_ret
    exact ⟨by first | rfl | (simp [errW_none, errW_some] <;> rfl) | (simp [*, errW_none, errW_some] <;> rfl), by repeat (first | (with_reducible first | exact HB.out | apply below_alloc | apply pw_below_drewN | apply below_drew1 | refine below_set ?_ GE8.out) | exact HB.out)⟩
  ·
   replace c14 := Bool.eq_false_iff.mpr c14
   subst c14
   have H1 : (some false) = some r := by rw [if_neg (show ¬ (false = true) by decide)] at H; exact H
   clear H
   have H := H1
   clear H1
   obtain rfl := Option.some.inj H
   go_enter Try.func8, Try.ntmps8
   try go_wp2_with (first | ((with_reducible refine gate_callee (f := 18) rfl ?_); refine goesL_ (some 6) rfl rfl Try.func18 (by kernel_rfl) rfl #[.int .u32 1, .int .u32 5] rfl (by (try simp only [List.map_toArray, List.map_cons, List.map_nil]); first | done | rfl | (simp only [List.length_drop, List.length_take]; rfl)) ?_; (with_reducible refine (q7z.calls 1 5 t1 _ A1.out).mono ?_); rintro e w' ⟨rfl, ⟨nd, rfl⟩⟩; refine ⟨_, rfl, ?_⟩) | ((with_reducible refine gate_callee (f := 18) rfl ?_); refine goesL_ (some 7) rfl rfl Try.func18 (by kernel_rfl) rfl #[.int .u32 9, .int .u32 9] rfl (by (try simp only [List.map_toArray, List.map_cons, List.map_nil]); first | done | rfl | (simp only [List.length_drop, List.length_take]; rfl)) ?_; (with_reducible refine (q7z.calls 9 9 t2 _ A2.out).mono ?_); rintro e w' ⟨rfl, ⟨nd, rfl⟩⟩; refine ⟨_, rfl, ?_⟩) | ((with_reducible refine gate_callee (f := 18) rfl ?_); refine goesL_ (some 9) rfl rfl Try.func18 (by kernel_rfl) rfl #[.int .u32 3, .int .u32 0] rfl (by (try simp only [List.map_toArray, List.map_cons, List.map_nil]); first | done | rfl | (simp only [List.length_drop, List.length_take]; rfl)) ?_; (with_reducible refine (q7z.calls 3 0 t3 _ A3.out).mono ?_); rintro e w' ⟨rfl, ⟨nd, rfl⟩⟩; refine ⟨_, rfl, ?_⟩) | ((with_reducible refine gate_callee (f := 18) rfl ?_); refine goesL_ (some 10) rfl rfl Try.func18 (by kernel_rfl) rfl #[.int .u32 20, .int .u32 6] rfl (by (try simp only [List.map_toArray, List.map_cons, List.map_nil]); first | done | rfl | (simp only [List.length_drop, List.length_take]; rfl)) ?_; (with_reducible refine (q7z.calls 20 6 t4 _ A4.out).mono ?_); rintro e w' ⟨rfl, ⟨nd, rfl⟩⟩; refine ⟨_, rfl, ?_⟩) | ((with_reducible refine gate_callee (f := 9) rfl ?_); refine goesL_ (some 12) rfl rfl Try.func9 (by kernel_rfl) rfl #[.agg #[.int .u32 t1, .int .u32 t2], .agg #[.int .u32 t3, .int .u32 t4]] rfl (by (try simp only [List.map_toArray, List.map_cons, List.map_nil]); first | done | rfl | (simp only [List.length_drop, List.length_take]; rfl)) ?_; (with_reducible refine (plane_Meet.calls t1 t2 t3 t4 t5 t6 false _ A5.out).mono ?_); rintro e w52 ⟨rfl, hb⟩; refine ⟨_, rfl, ?_⟩; have n0_ := Aside0.mk (below_step (by repeat (first | (with_reducible first | exact HB.out | apply below_alloc | apply pw_below_drewN | apply below_drew1) | exact HB.out)) hb); clear HB; have HB := n0_; clear n0_; (try clear hb); (try clear hb2); (try clear hk); (try clear hi)) | ((with_reducible refine gate_dst (N := 1) rfl ?_); (try (refine gate_guard (by rfl) ?_; dsimp only)); refine box_event ?hg (N := 1) ?hd (cs := #[.int .u32 0, .int .u32 0]) (t := 24) ?hr ?_; (case hd => rfl); (case hg => rfl); (case hr => first | (go_simp; done) | (go_simp; rfl)); intro gb8 hg w53 hbox hb; have n0_ := Aside0.mk (below_step (by repeat (first | (with_reducible first | exact HB.out | apply below_alloc | apply pw_below_drewN | apply below_drew1) | exact HB.out)) hb); have n1_ := Aside0.mk (hbox); have n2_ := Aside0.mk ((by rw [hg]; exact (below_size (by repeat (first | (with_reducible first | exact HB.out | apply below_alloc | apply pw_below_drewN | apply below_drew1) | exact HB.out))) : w.heap.size ≤ gb8)); have n3_ := Aside0.mk ((by rw [hg]; exact (below_size (by repeat (first | (with_reducible first | exact HB.out | apply below_alloc | apply pw_below_drewN | apply below_drew1) | exact HB.out))) : w.heap.size ≤ gb8)); clear HB; have HB := n0_; have BK8 := n1_; have GW8 := n2_; have GE8 := n3_; clear n0_ n1_ n2_ n3_; clear hb hbox hg; have hcz54_0 : w53.cell? ⟨gb8, 0, none⟩ = some (.int .u32 0) := (blk_cell BK8.out 0).trans rfl; have hcz54_1 : w53.cell? ⟨gb8, 1, none⟩ = some (.int .u32 0) := (blk_cell BK8.out 1).trans rfl; have hfz54_0 := blk_frozen BK8.out 0; have hfz54_1 := blk_frozen BK8.out 1) | ((with_reducible refine gate_callee (f := 18) rfl ?_); refine goesL_ (some 16) rfl rfl Try.func18 (by kernel_rfl) rfl #[.int .u32 1, .int .u32 1] rfl (by (try simp only [List.map_toArray, List.map_cons, List.map_nil]); first | done | rfl | (simp only [List.length_drop, List.length_take]; rfl)) ?_; (with_reducible refine (q7z.calls 1 1 t9 _ A6.out).mono ?_); rintro e w' ⟨rfl, ⟨nd, rfl⟩⟩; refine ⟨_, rfl, ?_⟩) | ((with_reducible refine gate_callee (f := 18) rfl ?_); refine goesL_ (some 17) rfl rfl Try.func18 (by kernel_rfl) rfl #[.int .u32 1, .int .u32 2] rfl (by (try simp only [List.map_toArray, List.map_cons, List.map_nil]); first | done | rfl | (simp only [List.length_drop, List.length_take]; rfl)) ?_; (with_reducible refine (q7z.calls 1 2 t10 _ A7.out).mono ?_); rintro e w' ⟨rfl, ⟨nd, rfl⟩⟩; refine ⟨_, rfl, ?_⟩) | ((with_reducible refine gate_dst (N := 19) rfl ?_); (try (refine gate_guard (by rfl) ?_; dsimp only)); refine Kd.R_lit k24 _ 24 ?hg (N := 19) ?hd (xs := ([(⟨t9, t10⟩ : S24)] : List (S24))) (inner := [.int .u32 t9, .int .u32 t10]) (ok := fun _ => True) (okp := fun _ => True) ?hr ?hp (fun _ hk => hk) trivial (Below.refl _ _) (Nat.le_refl _) (by simp) ?_; (case hd => rfl); (case hg => rfl); (case hr => first | (go_simp; done) | (go_simp; rfl)); (case hp => exact (Reps.c2 (show Kd.M k24 _ _ _ (⟨t9, t10⟩ : S24) [.int .u32 t9, .int .u32 t10] from (k24_mkM _ _ _ (⟨t9, t10⟩ : S24) )) (Reps.none _ _))); intro v12 w55 ho56 hb hg_ hnew_; clear hg_ hnew_; (first | rw [← Ny11.out] at ho56 | (simp only [Int.reduceToNat] at ho56; rw [← Ny11.out] at ho56)); have n0_ := Aside0.mk (Kd.R_lower (Kd.R_newB ho56 (g := gb8) (o := .cells #[.int .u32 t5, .int .u32 t6] 24 (0, 0)) (by (with_reducible repeat (first | refine blk_drewN ?_ _ | refine blk_drew ?_ | refine blk_alloc ?_ _)); refine blk_put (cs := #[.int .u32 t5, .int .u32 0]) ?_ 1 _ rfl; (with_reducible repeat (first | refine blk_drewN ?_ _ | refine blk_drew ?_ | refine blk_alloc ?_ _)); refine blk_put (cs := #[.int .u32 0, .int .u32 0]) ?_ 0 _ rfl; (with_reducible repeat (first | refine blk_drewN ?_ _ | refine blk_drew ?_ | refine blk_alloc ?_ _)); exact BK8.out)) (below_size (by repeat (first | (with_reducible first | exact HB.out | apply below_alloc | apply pw_below_drewN | apply below_drew1 | refine below_set ?_ GE8.out) | exact HB.out)))); have n1_ := Aside0.mk (blk_below (g := gb8) (o := .cells #[.int .u32 t5, .int .u32 t6] 24 (0, 0)) (by (with_reducible repeat (first | refine blk_drewN ?_ _ | refine blk_drew ?_ | refine blk_alloc ?_ _)); refine blk_put (cs := #[.int .u32 t5, .int .u32 0]) ?_ 1 _ rfl; (with_reducible repeat (first | refine blk_drewN ?_ _ | refine blk_drew ?_ | refine blk_alloc ?_ _)); refine blk_put (cs := #[.int .u32 0, .int .u32 0]) ?_ 0 _ rfl; (with_reducible repeat (first | refine blk_drewN ?_ _ | refine blk_drew ?_ | refine blk_alloc ?_ _)); exact BK8.out) hb); have n2_ := Aside0.mk (below_step (by repeat (first | (with_reducible first | exact HB.out | apply below_alloc | apply pw_below_drewN | apply below_drew1 | refine below_set ?_ GE8.out) | exact HB.out)) hb); clear BK8; clear HB; have HO13 := n0_; have BK8 := n1_; have HB := n2_; clear n0_ n1_ n2_; clear hb ho56; obtain ⟨Ao57, co57, eo57⟩ := Kd.R_slice HO13.out; subst eo57) | ((with_reducible refine gate_callee (f := 12) rfl ?_); refine goesL_ (some 20) rfl rfl Try.func12 (by kernel_rfl) rfl #[.slice Ao57 y11.length co57] rfl (by (try simp only [List.map_toArray, List.map_cons, List.map_nil]); first | done | rfl | (simp only [List.length_drop, List.length_take]; rfl)) ?_; (with_reducible refine (plane_Cells.calls k _ _ y11 t14 t15 _ ?side1 ?side2 A8.out).mono ?_); (case side1 => repeat (first | exact (Kd.R_reads' HO13.out).2.2 | (with_reducible refine Kd.C_alloc ?_ _) | (with_reducible refine Kd.C_drewN ?_ _) | (with_reducible refine Kd.C_drew ?_))); (case side2 => exact (Kd.R_reads' HO13.out).2.1); rintro e w58 ⟨v16, rfl, ho0, hb⟩; refine ⟨_, rfl, ?_⟩; have n0_ := Aside0.mk (Kd.R_below (by (with_reducible repeat (first | apply Kd.R_alloc | apply Kd.R_drewN | apply Kd.R_drew)); exact HO13.out) hb); have n1_ := Aside0.mk (Kd.R_lower ho0 (below_size (by repeat (first | (with_reducible first | exact HB.out | apply below_alloc | apply pw_below_drewN | apply below_drew1 | refine below_set ?_ GE8.out) | exact HB.out)))); have n2_ := Aside0.mk (blk_below (g := gb8) (o := .cells #[.int .u32 t5, .int .u32 t6] 24 (0, 0)) (by (with_reducible repeat (first | refine blk_drewN ?_ _ | refine blk_drew ?_ | refine blk_alloc ?_ _)); exact BK8.out) hb); have n3_ := Aside0.mk (below_step (by repeat (first | (with_reducible first | exact HB.out | apply below_alloc | apply pw_below_drewN | apply below_drew1 | refine below_set ?_ GE8.out) | exact HB.out)) hb); clear HO13; clear BK8; clear HB; have HO13 := n0_; have HO17 := n1_; have BK8 := n2_; have HB := n3_; clear n0_ n1_ n2_ n3_; (try clear hb); (try clear hb2); (try clear hk); (try clear hi); (try clear ho0)))
   have n0_ := Aside0.mk (Kd.R_drew HO13.out)
   have n1_ := Aside0.mk (Kd.R_drew HO17.out)
   have n2_ := Aside0.mk (blk_drew BK8.out)
   have n3_ := Aside0.mk (below_drew1 HB.out)
   clear HO13
   clear HO17
   clear BK8
   clear HB
   have HO13 := n0_
   have HO17 := n1_
   have BK8 := n2_
   have HB := n3_
   clear n0_ n1_ n2_ n3_
   refine start_ (n := 26) (S := fun w' => True) (ds := []) #[false, false, false, false, false, false, false, false, false, false, false, false, false, false, false, false, false, false, false, false, false, false, false, false, false, false] (by kernel_rfl) rfl rfl trivial (fun hHeld => ?_); refine with_tabW q9z.tab3 q9z.bits3 (fun HT_ HW_ => ?_)
   generalize w58.drew = w59 at HO13 HO17 BK8 HB hHeld ⊢
   refine one_ (i := 0) (N := some 23) #[true, false, false, false, false, false, false, false, false, false, false, false, false, false, false, false, false, false, false, false, false, false, false, false, false, false] rfl rfl (one_of HT_.out (by kernel_rfl)) (by decide) (fun K hK => ?_)
   refine goes_ Try.func18 (by kernel_rfl) rfl #[.int .u32 65000, .int .u32 0] (by rfl) rfl rfl (by (try simp only [List.map_toArray, List.map_cons, List.map_nil]); first | done | rfl | (simp only [List.length_drop, List.length_take]; rfl)) ?_
   with_reducible refine (q7z.calls 65000 0 t18 _ A9.out).mono ?_
   rintro e w' ⟨rfl, ⟨nd, rfl⟩⟩
   refine ⟨_, rfl, ?_⟩
   refine hK.out _ _ trivial (fun hHeld => ?_)
   clear hK K
   refine norm_ (a' := ?_) ?_ ?_
   rotate_left
   ·
    show Act.put _ (some 23) _ = _
    simp only [Act.put, List.setIfInBounds_toArray, List.set_cons_zero, List.set_cons_succ, i64_w, i32_w, IntKind.wrap_u32]
    rfl
   refine one_ (i := 1) (N := some 24) #[true, true, false, false, false, false, false, false, false, false, false, false, false, false, false, false, false, false, false, false, false, false, false, false, false, false] rfl rfl (one_of HT_.out (by kernel_rfl)) (by decide) (fun K hK => ?_)
   refine goes_ Try.func18 (by kernel_rfl) rfl #[.int .u32 65000, .int .u32 65535] (by rfl) rfl rfl (by (try simp only [List.map_toArray, List.map_cons, List.map_nil]); first | done | rfl | (simp only [List.length_drop, List.length_take]; rfl)) ?_
   with_reducible refine (q7z.calls 65000 65535 t19 _ A10.out).mono ?_
   rintro e w' ⟨rfl, ⟨nd, rfl⟩⟩
   refine ⟨_, rfl, ?_⟩
   refine hK.out _ _ trivial (fun hHeld => ?_)
   clear hK K
   refine norm_ (a' := ?_) ?_ ?_
   rotate_left
   ·
    show Act.put _ (some 24) _ = _
    simp only [Act.put, List.setIfInBounds_toArray, List.set_cons_zero, List.set_cons_succ, i64_w, i32_w, IntKind.wrap_u32]
    rfl
   refine pure_ (i := 2) (N := some 25) (v := ?_) (a' := ?_) #[true, true, true, false, false, false, false, false, false, false, false, false, false, false, false, false, false, false, false, false, false, false, false, false, false, false] rfl rfl (any_of HT_.out (by kernel_rfl)) (fun _ _ _ h => h) (Or.inl ⟨by rfl, ?_⟩) ?_ ?_
   rotate_left
   ·
    intro w'
    go_simp
    with_reducible rfl
   rotate_left
   ·
    simp only [Act.put, List.setIfInBounds_toArray, List.set_cons_zero, List.set_cons_succ, i64_w, i32_w, IntKind.wrap_u32]
    rfl
   refine one_ (i := 3) (N := some 26) #[true, true, true, true, false, false, false, false, false, false, false, false, false, false, false, false, false, false, false, false, false, false, false, false, false, false] rfl rfl (one_of HT_.out (by kernel_rfl)) (by decide) (fun K hK => ?_)
   refine goes_ Try.func18 (by kernel_rfl) rfl #[.int .u32 65000, .int .u32 7] (by rfl) rfl rfl (by (try simp only [List.map_toArray, List.map_cons, List.map_nil]); first | done | rfl | (simp only [List.length_drop, List.length_take]; rfl)) ?_
   with_reducible refine (q7z.calls 65000 7 t20 _ A11.out).mono ?_
   rintro e w' ⟨rfl, ⟨nd, rfl⟩⟩
   refine ⟨_, rfl, ?_⟩
   refine hK.out _ _ trivial (fun hHeld => ?_)
   clear hK K
   refine norm_ (a' := ?_) ?_ ?_
   rotate_left
   ·
    show Act.put _ (some 26) _ = _
    simp only [Act.put, List.setIfInBounds_toArray, List.set_cons_zero, List.set_cons_succ, i64_w, i32_w, IntKind.wrap_u32]
    rfl
   refine one_ (i := 4) (N := some 27) #[true, true, true, true, true, false, false, false, false, false, false, false, false, false, false, false, false, false, false, false, false, false, false, false, false, false] rfl rfl (one_of HT_.out (by kernel_rfl)) (by decide) (fun K hK => ?_)
   refine goes_ Try.func11 (by kernel_rfl) rfl #[.agg #[.int .u32 t18, .int .u32 t19], .int .u32 t20] (by rfl) rfl rfl (by (try simp only [List.map_toArray, List.map_cons, List.map_nil]); first | done | rfl | (simp only [List.length_drop, List.length_take]; rfl)) ?_
   with_reducible refine (plane_In.calls t18 t19 t20 true _ A12.out).mono ?_
   rintro e w60 ⟨rfl, hb⟩
   refine ⟨_, rfl, ?_⟩
   have n0_ := Aside0.mk (Kd.R_below (by (with_reducible repeat (first | apply Kd.R_alloc | apply Kd.R_drewN | apply Kd.R_drew)); exact HO13.out) hb)
   have n1_ := Aside0.mk (Kd.R_below (by (with_reducible repeat (first | apply Kd.R_alloc | apply Kd.R_drewN | apply Kd.R_drew)); exact HO17.out) hb)
   have n2_ := Aside0.mk (blk_below (g := gb8) (o := .cells #[.int .u32 t5, .int .u32 t6] 24 (0, 0)) (by (with_reducible repeat (first | refine blk_drewN ?_ _ | refine blk_drew ?_ | refine blk_alloc ?_ _)); exact BK8.out) hb)
   have n3_ := Aside0.mk (below_step (by repeat (first | (with_reducible first | exact HB.out | apply below_alloc | apply pw_below_drewN | apply below_drew1 | refine below_set ?_ GE8.out) | exact HB.out)) hb)
   clear HO13
   clear HO17
   clear BK8
   clear HB
   have HO13 := n0_
   have HO17 := n1_
   have BK8 := n2_
   have HB := n3_
   clear n0_ n1_ n2_ n3_
   (try clear hb)
   (try clear hb2)
   (try clear hk)
   (try clear hi)
   refine hK.out _ _ trivial (fun hHeld => ?_)
   clear hK K
   refine norm_ (a' := ?_) ?_ ?_
   rotate_left
   ·
    show Act.put _ (some 27) _ = _
    simp only [Act.put, List.setIfInBounds_toArray, List.set_cons_zero, List.set_cons_succ, i64_w, i32_w, IntKind.wrap_u32]
    rfl
   refine pure_ (i := 5) (N := some 28) (v := ?_) (a' := ?_) #[true, true, true, true, true, true, false, false, false, false, false, false, false, false, false, false, false, false, false, false, false, false, false, false, false, false] rfl rfl (any_of HT_.out (by kernel_rfl)) (fun _ _ _ h => h) (Or.inl ⟨by rfl, ?_⟩) ?_ ?_
   rotate_left
   ·
    intro w'
    go_simp
    with_reducible rfl
   rotate_left
   ·
    simp only [Act.put, List.setIfInBounds_toArray, List.set_cons_zero, List.set_cons_succ, i64_w, i32_w, IntKind.wrap_u32]
    rfl
   refine pure_ (i := 6) (N := some 29) (v := ?_) (a' := ?_) #[true, true, true, true, true, true, true, false, false, false, false, false, false, false, false, false, false, false, false, false, false, false, false, false, false, false] rfl rfl (any_of HT_.out (by kernel_rfl)) (fun _ _ _ h => h) (Or.inl ⟨by rfl, ?_⟩) ?_ ?_
   rotate_left
   ·
    intro w'
    go_simp
    with_reducible rfl
   rotate_left
   ·
    simp only [Act.put, List.setIfInBounds_toArray, List.set_cons_zero, List.set_cons_succ, i64_w, i32_w, IntKind.wrap_u32]
    rfl
   refine pure_ (i := 7) (N := some 30) (v := ?_) (a' := ?_) #[true, true, true, true, true, true, true, true, false, false, false, false, false, false, false, false, false, false, false, false, false, false, false, false, false, false] rfl rfl (any_of HT_.out (by kernel_rfl)) (fun _ _ _ h => h) (Or.inl ⟨by rfl, ?_⟩) ?_ ?_
   rotate_left
   ·
    intro w'
    go_simp
    with_reducible rfl
   rotate_left
   ·
    simp only [Act.put, List.setIfInBounds_toArray, List.set_cons_zero, List.set_cons_succ, i64_w, i32_w, IntKind.wrap_u32]
    rfl
   refine pure_ (i := 8) (N := some 31) (v := ?_) (a' := ?_) #[true, true, true, true, true, true, true, true, true, false, false, false, false, false, false, false, false, false, false, false, false, false, false, false, false, false] rfl rfl (any_of HT_.out (by kernel_rfl)) (fun _ _ _ h => h) (Or.inl ⟨by rfl, ?_⟩) ?_ ?_
   rotate_left
   ·
    intro w'
    go_simp
    with_reducible rfl
   rotate_left
   ·
    simp only [Act.put, List.setIfInBounds_toArray, List.set_cons_zero, List.set_cons_succ, i64_w, i32_w, IntKind.wrap_u32]
    rfl
   refine pure_ (i := 9) (N := some 32) (v := undef) (a' := ?_) #[true, true, true, true, true, true, true, true, true, true, false, false, false, false, false, false, false, false, false, false, false, false, false, false, false, false] rfl rfl (any_of HT_.out (by kernel_rfl)) (fun _ _ _ h => h) (Or.inr ⟨by rfl, rfl⟩) ?_ ?_
   rotate_left
   ·
    simp only [Act.put, List.setIfInBounds_toArray, List.set_cons_zero, List.set_cons_succ, i64_w, i32_w, IntKind.wrap_u32]
    rfl
   refine pure_ (i := 10) (N := some 33) (v := undef) (a' := ?_) #[true, true, true, true, true, true, true, true, true, true, true, false, false, false, false, false, false, false, false, false, false, false, false, false, false, false] rfl rfl (any_of HT_.out (by kernel_rfl)) (fun _ _ _ h => h) (Or.inr ⟨by rfl, rfl⟩) ?_ ?_
   rotate_left
   ·
    simp only [Act.put, List.setIfInBounds_toArray, List.set_cons_zero, List.set_cons_succ, i64_w, i32_w, IntKind.wrap_u32]
    rfl
   refine pure_ (i := 11) (N := some 34) (v := undef) (a' := ?_) #[true, true, true, true, true, true, true, true, true, true, true, true, false, false, false, false, false, false, false, false, false, false, false, false, false, false] rfl rfl (any_of HT_.out (by kernel_rfl)) (fun _ _ _ h => h) (Or.inr ⟨by rfl, rfl⟩) ?_ ?_
   rotate_left
   ·
    simp only [Act.put, List.setIfInBounds_toArray, List.set_cons_zero, List.set_cons_succ, i64_w, i32_w, IntKind.wrap_u32]
    rfl
   refine pure_ (i := 12) (N := some 35) (v := undef) (a' := ?_) #[true, true, true, true, true, true, true, true, true, true, true, true, true, false, false, false, false, false, false, false, false, false, false, false, false, false] rfl rfl (any_of HT_.out (by kernel_rfl)) (fun _ _ _ h => h) (Or.inr ⟨by rfl, rfl⟩) ?_ ?_
   rotate_left
   ·
    simp only [Act.put, List.setIfInBounds_toArray, List.set_cons_zero, List.set_cons_succ, i64_w, i32_w, IntKind.wrap_u32]
    rfl
   refine pure_ (i := 13) (N := some 36) (v := undef) (a' := ?_) #[true, true, true, true, true, true, true, true, true, true, true, true, true, true, false, false, false, false, false, false, false, false, false, false, false, false] rfl rfl (any_of HT_.out (by kernel_rfl)) (fun _ _ _ h => h) (Or.inr ⟨by rfl, rfl⟩) ?_ ?_
   rotate_left
   ·
    simp only [Act.put, List.setIfInBounds_toArray, List.set_cons_zero, List.set_cons_succ, i64_w, i32_w, IntKind.wrap_u32]
    rfl
   refine pure_ (i := 14) (N := some 37) (v := ?_) (a' := ?_) #[true, true, true, true, true, true, true, true, true, true, true, true, true, true, true, false, false, false, false, false, false, false, false, false, false, false] rfl rfl (any_of HT_.out (by kernel_rfl)) (fun _ _ _ h => h) (Or.inl ⟨by rfl, ?_⟩) ?_ ?_
   rotate_left
   ·
    intro w'
    go_simp
    with_reducible rfl
   rotate_left
   ·
    simp only [Act.put, List.setIfInBounds_toArray, List.set_cons_zero, List.set_cons_succ, i64_w, i32_w, IntKind.wrap_u32]
    rfl
   refine pure_ (i := 15) (N := some 38) (v := ?_) (a' := ?_) #[true, true, true, true, true, true, true, true, true, true, true, true, true, true, true, true, false, false, false, false, false, false, false, false, false, false] rfl rfl (any_of HT_.out (by kernel_rfl)) (fun _ _ _ h => h) (Or.inl ⟨by rfl, ?_⟩) ?_ ?_
   rotate_left
   ·
    intro w'
    go_simp
    with_reducible rfl
   rotate_left
   ·
    simp only [Act.put, List.setIfInBounds_toArray, List.set_cons_zero, List.set_cons_succ, i64_w, i32_w, IntKind.wrap_u32]
    rfl
   refine pure_ (i := 16) (N := some 39) (v := undef) (a' := ?_) #[true, true, true, true, true, true, true, true, true, true, true, true, true, true, true, true, true, false, false, false, false, false, false, false, false, false] rfl rfl (any_of HT_.out (by kernel_rfl)) (fun _ _ _ h => h) (Or.inr ⟨by rfl, rfl⟩) ?_ ?_
   rotate_left
   ·
    simp only [Act.put, List.setIfInBounds_toArray, List.set_cons_zero, List.set_cons_succ, i64_w, i32_w, IntKind.wrap_u32]
    rfl
   refine pure_ (i := 17) (N := some 40) (v := undef) (a' := ?_) #[true, true, true, true, true, true, true, true, true, true, true, true, true, true, true, true, true, true, false, false, false, false, false, false, false, false] rfl rfl (any_of HT_.out (by kernel_rfl)) (fun _ _ _ h => h) (Or.inr ⟨by rfl, rfl⟩) ?_ ?_
   rotate_left
   ·
    simp only [Act.put, List.setIfInBounds_toArray, List.set_cons_zero, List.set_cons_succ, i64_w, i32_w, IntKind.wrap_u32]
    rfl
   refine pure_ (i := 18) (N := some 41) (v := ?_) (a' := ?_) #[true, true, true, true, true, true, true, true, true, true, true, true, true, true, true, true, true, true, true, false, false, false, false, false, false, false] rfl rfl (any_of HT_.out (by kernel_rfl)) (fun _ _ _ h => h) (Or.inl ⟨by rfl, ?_⟩) ?_ ?_
   rotate_left
   ·
    intro w'
    go_simp
    with_reducible rfl
   rotate_left
   ·
    simp only [Act.put, List.setIfInBounds_toArray, List.set_cons_zero, List.set_cons_succ, i64_w, i32_w, IntKind.wrap_u32]
    rfl
   refine pure_ (i := 19) (N := some 42) (v := ?_) (a' := ?_) #[true, true, true, true, true, true, true, true, true, true, true, true, true, true, true, true, true, true, true, true, false, false, false, false, false, false] rfl rfl (any_of HT_.out (by kernel_rfl)) (fun _ _ _ h => h) (Or.inl ⟨by rfl, ?_⟩) ?_ ?_
   rotate_left
   ·
    intro w'
    go_simp
    with_reducible rfl
   rotate_left
   ·
    simp only [Act.put, List.setIfInBounds_toArray, List.set_cons_zero, List.set_cons_succ, i64_w, i32_w, IntKind.wrap_u32]
    rfl
   refine pure_ (i := 20) (N := some 43) (v := undef) (a' := ?_) #[true, true, true, true, true, true, true, true, true, true, true, true, true, true, true, true, true, true, true, true, true, false, false, false, false, false] rfl rfl (any_of HT_.out (by kernel_rfl)) (fun _ _ _ h => h) (Or.inr ⟨by rfl, rfl⟩) ?_ ?_
   rotate_left
   ·
    simp only [Act.put, List.setIfInBounds_toArray, List.set_cons_zero, List.set_cons_succ, i64_w, i32_w, IntKind.wrap_u32]
    rfl
   refine pure_ (i := 21) (N := some 44) (v := undef) (a' := ?_) #[true, true, true, true, true, true, true, true, true, true, true, true, true, true, true, true, true, true, true, true, true, true, false, false, false, false] rfl rfl (any_of HT_.out (by kernel_rfl)) (fun _ _ _ h => h) (Or.inr ⟨by rfl, rfl⟩) ?_ ?_
   rotate_left
   ·
    simp only [Act.put, List.setIfInBounds_toArray, List.set_cons_zero, List.set_cons_succ, i64_w, i32_w, IntKind.wrap_u32]
    rfl
   refine pure_ (i := 22) (N := some 45) (v := undef) (a' := ?_) #[true, true, true, true, true, true, true, true, true, true, true, true, true, true, true, true, true, true, true, true, true, true, true, false, false, false] rfl rfl (any_of HT_.out (by kernel_rfl)) (fun _ _ _ h => h) (Or.inr ⟨by rfl, rfl⟩) ?_ ?_
   rotate_left
   ·
    simp only [Act.put, List.setIfInBounds_toArray, List.set_cons_zero, List.set_cons_succ, i64_w, i32_w, IntKind.wrap_u32]
    rfl
   refine pure_ (i := 23) (N := some 46) (v := undef) (a' := ?_) #[true, true, true, true, true, true, true, true, true, true, true, true, true, true, true, true, true, true, true, true, true, true, true, true, false, false] rfl rfl (any_of HT_.out (by kernel_rfl)) (fun _ _ _ h => h) (Or.inr ⟨by rfl, rfl⟩) ?_ ?_
   rotate_left
   ·
    simp only [Act.put, List.setIfInBounds_toArray, List.set_cons_zero, List.set_cons_succ, i64_w, i32_w, IntKind.wrap_u32]
    rfl
   refine pure_ (i := 24) (N := some 47) (v := ?_) (a' := ?_) #[true, true, true, true, true, true, true, true, true, true, true, true, true, true, true, true, true, true, true, true, true, true, true, true, true, false] rfl rfl (any_of HT_.out (by kernel_rfl)) (fun _ _ _ h => h) (Or.inl ⟨by rfl, ?_⟩) ?_ ?_
   rotate_left
   ·
    intro w'
    go_simp
    with_reducible rfl
   rotate_left
   ·
    simp only [Act.put, List.setIfInBounds_toArray, List.set_cons_zero, List.set_cons_succ, i64_w, i32_w, IntKind.wrap_u32]
    rfl
   refine pure_ (i := 25) (N := some 0) (v := ?_) (a' := ?_) #[true, true, true, true, true, true, true, true, true, true, true, true, true, true, true, true, true, true, true, true, true, true, true, true, true, true] rfl rfl (any_of HT_.out (by kernel_rfl)) (fun _ _ _ h => h) (Or.inl ⟨by rfl, ?_⟩) ?_ ?_
   rotate_left
   ·
    intro w'
    go_simp
    with_reducible rfl
   rotate_left
   ·
    simp only [Act.put, List.setIfInBounds_toArray, List.set_cons_zero, List.set_cons_succ, i64_w, i32_w, IntKind.wrap_u32]
    rfl
   refine done_ (done_of HT_.out (by kernel_rfl)) ?_
   try go_wp2
   go_ret
   exact ⟨by first | rfl | (simp [errW_none, errW_some] <;> rfl) | (simp [*, errW_none, errW_some] <;> rfl), by repeat (first | (with_reducible first | exact HB.out | apply below_alloc | apply pw_below_drewN | apply below_drew1 | refine below_set ?_ GE8.out) | exact HB.out)⟩
 ·
  replace c13 := Bool.eq_false_iff.mpr c13
  subst c13
  have H1 : (some false) = some r := by rw [if_neg (show ¬ (false = true) by decide)] at H; exact H
  clear H
  have H := H1
  clear H1
  obtain rfl := Option.some.inj H
  go_enter Try.func8, Try.ntmps8
  try go_wp2_with (first | ((with_reducible refine gate_callee (f := 18) rfl ?_); refine goesL_ (some 6) rfl rfl Try.func18 (by kernel_rfl) rfl #[.int .u32 1, .int .u32 5] rfl (by (try simp only [List.map_toArray, List.map_cons, List.map_nil]); first | done | rfl | (simp only [List.length_drop, List.length_take]; rfl)) ?_; (with_reducible refine (q7z.calls 1 5 t1 _ A1.out).mono ?_); rintro e w' ⟨rfl, ⟨nd, rfl⟩⟩; refine ⟨_, rfl, ?_⟩) | ((with_reducible refine gate_callee (f := 18) rfl ?_); refine goesL_ (some 7) rfl rfl Try.func18 (by kernel_rfl) rfl #[.int .u32 9, .int .u32 9] rfl (by (try simp only [List.map_toArray, List.map_cons, List.map_nil]); first | done | rfl | (simp only [List.length_drop, List.length_take]; rfl)) ?_; (with_reducible refine (q7z.calls 9 9 t2 _ A2.out).mono ?_); rintro e w' ⟨rfl, ⟨nd, rfl⟩⟩; refine ⟨_, rfl, ?_⟩) | ((with_reducible refine gate_callee (f := 18) rfl ?_); refine goesL_ (some 9) rfl rfl Try.func18 (by kernel_rfl) rfl #[.int .u32 3, .int .u32 0] rfl (by (try simp only [List.map_toArray, List.map_cons, List.map_nil]); first | done | rfl | (simp only [List.length_drop, List.length_take]; rfl)) ?_; (with_reducible refine (q7z.calls 3 0 t3 _ A3.out).mono ?_); rintro e w' ⟨rfl, ⟨nd, rfl⟩⟩; refine ⟨_, rfl, ?_⟩) | ((with_reducible refine gate_callee (f := 18) rfl ?_); refine goesL_ (some 10) rfl rfl Try.func18 (by kernel_rfl) rfl #[.int .u32 20, .int .u32 6] rfl (by (try simp only [List.map_toArray, List.map_cons, List.map_nil]); first | done | rfl | (simp only [List.length_drop, List.length_take]; rfl)) ?_; (with_reducible refine (q7z.calls 20 6 t4 _ A4.out).mono ?_); rintro e w' ⟨rfl, ⟨nd, rfl⟩⟩; refine ⟨_, rfl, ?_⟩) | ((with_reducible refine gate_callee (f := 9) rfl ?_); refine goesL_ (some 12) rfl rfl Try.func9 (by kernel_rfl) rfl #[.agg #[.int .u32 t1, .int .u32 t2], .agg #[.int .u32 t3, .int .u32 t4]] rfl (by (try simp only [List.map_toArray, List.map_cons, List.map_nil]); first | done | rfl | (simp only [List.length_drop, List.length_take]; rfl)) ?_; (with_reducible refine (plane_Meet.calls t1 t2 t3 t4 t5 t6 t7 _ A5.out).mono ?_); rintro e w61 ⟨rfl, hb⟩; refine ⟨_, rfl, ?_⟩; have n0_ := Aside0.mk (below_step (by repeat (first | (with_reducible first | exact HB.out | apply below_alloc | apply pw_below_drewN | apply below_drew1) | exact HB.out)) hb); clear HB; have HB := n0_; clear n0_; (try clear hb); (try clear hb2); (try clear hk); (try clear hi)) | ((with_reducible refine gate_dst (N := 1) rfl ?_); (try (refine gate_guard (by rfl) ?_; dsimp only)); refine box_event ?hg (N := 1) ?hd (cs := #[.int .u32 0, .int .u32 0]) (t := 24) ?hr ?_; (case hd => rfl); (case hg => rfl); (case hr => first | (go_simp; done) | (go_simp; rfl)); intro gb8 hg w62 hbox hb; have n0_ := Aside0.mk (below_step (by repeat (first | (with_reducible first | exact HB.out | apply below_alloc | apply pw_below_drewN | apply below_drew1) | exact HB.out)) hb); have n1_ := Aside0.mk (hbox); have n2_ := Aside0.mk ((by rw [hg]; exact (below_size (by repeat (first | (with_reducible first | exact HB.out | apply below_alloc | apply pw_below_drewN | apply below_drew1) | exact HB.out))) : w.heap.size ≤ gb8)); have n3_ := Aside0.mk ((by rw [hg]; exact (below_size (by repeat (first | (with_reducible first | exact HB.out | apply below_alloc | apply pw_below_drewN | apply below_drew1) | exact HB.out))) : w.heap.size ≤ gb8)); clear HB; have HB := n0_; have BK8 := n1_; have GW8 := n2_; have GE8 := n3_; clear n0_ n1_ n2_ n3_; clear hb hbox hg; have hcz63_0 : w62.cell? ⟨gb8, 0, none⟩ = some (.int .u32 0) := (blk_cell BK8.out 0).trans rfl; have hcz63_1 : w62.cell? ⟨gb8, 1, none⟩ = some (.int .u32 0) := (blk_cell BK8.out 1).trans rfl; have hfz63_0 := blk_frozen BK8.out 0; have hfz63_1 := blk_frozen BK8.out 1) | ((with_reducible refine gate_callee (f := 18) rfl ?_); refine goesL_ (some 16) rfl rfl Try.func18 (by kernel_rfl) rfl #[.int .u32 1, .int .u32 1] rfl (by (try simp only [List.map_toArray, List.map_cons, List.map_nil]); first | done | rfl | (simp only [List.length_drop, List.length_take]; rfl)) ?_; (with_reducible refine (q7z.calls 1 1 t9 _ A6.out).mono ?_); rintro e w' ⟨rfl, ⟨nd, rfl⟩⟩; refine ⟨_, rfl, ?_⟩) | ((with_reducible refine gate_callee (f := 18) rfl ?_); refine goesL_ (some 17) rfl rfl Try.func18 (by kernel_rfl) rfl #[.int .u32 1, .int .u32 2] rfl (by (try simp only [List.map_toArray, List.map_cons, List.map_nil]); first | done | rfl | (simp only [List.length_drop, List.length_take]; rfl)) ?_; (with_reducible refine (q7z.calls 1 2 t10 _ A7.out).mono ?_); rintro e w' ⟨rfl, ⟨nd, rfl⟩⟩; refine ⟨_, rfl, ?_⟩) | ((with_reducible refine gate_dst (N := 19) rfl ?_); (try (refine gate_guard (by rfl) ?_; dsimp only)); refine Kd.R_lit k24 _ 24 ?hg (N := 19) ?hd (xs := ([(⟨t9, t10⟩ : S24)] : List (S24))) (inner := [.int .u32 t9, .int .u32 t10]) (ok := fun _ => True) (okp := fun _ => True) ?hr ?hp (fun _ hk => hk) trivial (Below.refl _ _) (Nat.le_refl _) (by simp) ?_; (case hd => rfl); (case hg => rfl); (case hr => first | (go_simp; done) | (go_simp; rfl)); (case hp => exact (Reps.c2 (show Kd.M k24 _ _ _ (⟨t9, t10⟩ : S24) [.int .u32 t9, .int .u32 t10] from (k24_mkM _ _ _ (⟨t9, t10⟩ : S24) )) (Reps.none _ _))); intro v12 w64 ho65 hb hg_ hnew_; clear hg_ hnew_; (first | rw [← Ny11.out] at ho65 | (simp only [Int.reduceToNat] at ho65; rw [← Ny11.out] at ho65)); have n0_ := Aside0.mk (Kd.R_lower (Kd.R_newB ho65 (g := gb8) (o := .cells #[.int .u32 t5, .int .u32 t6] 24 (0, 0)) (by (with_reducible repeat (first | refine blk_drewN ?_ _ | refine blk_drew ?_ | refine blk_alloc ?_ _)); refine blk_put (cs := #[.int .u32 t5, .int .u32 0]) ?_ 1 _ rfl; (with_reducible repeat (first | refine blk_drewN ?_ _ | refine blk_drew ?_ | refine blk_alloc ?_ _)); refine blk_put (cs := #[.int .u32 0, .int .u32 0]) ?_ 0 _ rfl; (with_reducible repeat (first | refine blk_drewN ?_ _ | refine blk_drew ?_ | refine blk_alloc ?_ _)); exact BK8.out)) (below_size (by repeat (first | (with_reducible first | exact HB.out | apply below_alloc | apply pw_below_drewN | apply below_drew1 | refine below_set ?_ GE8.out) | exact HB.out)))); have n1_ := Aside0.mk (blk_below (g := gb8) (o := .cells #[.int .u32 t5, .int .u32 t6] 24 (0, 0)) (by (with_reducible repeat (first | refine blk_drewN ?_ _ | refine blk_drew ?_ | refine blk_alloc ?_ _)); refine blk_put (cs := #[.int .u32 t5, .int .u32 0]) ?_ 1 _ rfl; (with_reducible repeat (first | refine blk_drewN ?_ _ | refine blk_drew ?_ | refine blk_alloc ?_ _)); refine blk_put (cs := #[.int .u32 0, .int .u32 0]) ?_ 0 _ rfl; (with_reducible repeat (first | refine blk_drewN ?_ _ | refine blk_drew ?_ | refine blk_alloc ?_ _)); exact BK8.out) hb); have n2_ := Aside0.mk (below_step (by repeat (first | (with_reducible first | exact HB.out | apply below_alloc | apply pw_below_drewN | apply below_drew1 | refine below_set ?_ GE8.out) | exact HB.out)) hb); clear BK8; clear HB; have HO13 := n0_; have BK8 := n1_; have HB := n2_; clear n0_ n1_ n2_; clear hb ho65; obtain ⟨Ao66, co66, eo66⟩ := Kd.R_slice HO13.out; subst eo66) | ((with_reducible refine gate_callee (f := 12) rfl ?_); refine goesL_ (some 20) rfl rfl Try.func12 (by kernel_rfl) rfl #[.slice Ao66 y11.length co66] rfl (by (try simp only [List.map_toArray, List.map_cons, List.map_nil]); first | done | rfl | (simp only [List.length_drop, List.length_take]; rfl)) ?_; (with_reducible refine (plane_Cells.calls k _ _ y11 t14 t15 _ ?side1 ?side2 A8.out).mono ?_); (case side1 => repeat (first | exact (Kd.R_reads' HO13.out).2.2 | (with_reducible refine Kd.C_alloc ?_ _) | (with_reducible refine Kd.C_drewN ?_ _) | (with_reducible refine Kd.C_drew ?_))); (case side2 => exact (Kd.R_reads' HO13.out).2.1); rintro e w67 ⟨v16, rfl, ho0, hb⟩; refine ⟨_, rfl, ?_⟩; have n0_ := Aside0.mk (Kd.R_below (by (with_reducible repeat (first | apply Kd.R_alloc | apply Kd.R_drewN | apply Kd.R_drew)); exact HO13.out) hb); have n1_ := Aside0.mk (Kd.R_lower ho0 (below_size (by repeat (first | (with_reducible first | exact HB.out | apply below_alloc | apply pw_below_drewN | apply below_drew1 | refine below_set ?_ GE8.out) | exact HB.out)))); have n2_ := Aside0.mk (blk_below (g := gb8) (o := .cells #[.int .u32 t5, .int .u32 t6] 24 (0, 0)) (by (with_reducible repeat (first | refine blk_drewN ?_ _ | refine blk_drew ?_ | refine blk_alloc ?_ _)); exact BK8.out) hb); have n3_ := Aside0.mk (below_step (by repeat (first | (with_reducible first | exact HB.out | apply below_alloc | apply pw_below_drewN | apply below_drew1 | refine below_set ?_ GE8.out) | exact HB.out)) hb); clear HO13; clear BK8; clear HB; have HO13 := n0_; have HO17 := n1_; have BK8 := n2_; have HB := n3_; clear n0_ n1_ n2_ n3_; (try clear hb); (try clear hb2); (try clear hk); (try clear hi); (try clear ho0)))
  have n0_ := Aside0.mk (Kd.R_drew HO13.out)
  have n1_ := Aside0.mk (Kd.R_drew HO17.out)
  have n2_ := Aside0.mk (blk_drew BK8.out)
  have n3_ := Aside0.mk (below_drew1 HB.out)
  clear HO13
  clear HO17
  clear BK8
  clear HB
  have HO13 := n0_
  have HO17 := n1_
  have BK8 := n2_
  have HB := n3_
  clear n0_ n1_ n2_ n3_
  refine start_ (n := 26) (S := fun w' => True) (ds := []) #[false, false, false, false, false, false, false, false, false, false, false, false, false, false, false, false, false, false, false, false, false, false, false, false, false, false] (by kernel_rfl) rfl rfl trivial (fun hHeld => ?_); refine with_tabW q9z.tab3 q9z.bits3 (fun HT_ HW_ => ?_)
  generalize w67.drew = w68 at HO13 HO17 BK8 HB hHeld ⊢
  refine one_ (i := 0) (N := some 23) #[true, false, false, false, false, false, false, false, false, false, false, false, false, false, false, false, false, false, false, false, false, false, false, false, false, false] rfl rfl (one_of HT_.out (by kernel_rfl)) (by decide) (fun K hK => ?_)
  refine goes_ Try.func18 (by kernel_rfl) rfl #[.int .u32 65000, .int .u32 0] (by rfl) rfl rfl (by (try simp only [List.map_toArray, List.map_cons, List.map_nil]); first | done | rfl | (simp only [List.length_drop, List.length_take]; rfl)) ?_
  with_reducible refine (q7z.calls 65000 0 t18 _ A9.out).mono ?_
  rintro e w' ⟨rfl, ⟨nd, rfl⟩⟩
  refine ⟨_, rfl, ?_⟩
  refine hK.out _ _ trivial (fun hHeld => ?_)
  clear hK K
  refine norm_ (a' := ?_) ?_ ?_
  rotate_left
  ·
   show Act.put _ (some 23) _ = _
   simp only [Act.put, List.setIfInBounds_toArray, List.set_cons_zero, List.set_cons_succ, i64_w, i32_w, IntKind.wrap_u32]
   rfl
  refine one_ (i := 1) (N := some 24) #[true, true, false, false, false, false, false, false, false, false, false, false, false, false, false, false, false, false, false, false, false, false, false, false, false, false] rfl rfl (one_of HT_.out (by kernel_rfl)) (by decide) (fun K hK => ?_)
  refine goes_ Try.func18 (by kernel_rfl) rfl #[.int .u32 65000, .int .u32 65535] (by rfl) rfl rfl (by (try simp only [List.map_toArray, List.map_cons, List.map_nil]); first | done | rfl | (simp only [List.length_drop, List.length_take]; rfl)) ?_
  with_reducible refine (q7z.calls 65000 65535 t19 _ A10.out).mono ?_
  rintro e w' ⟨rfl, ⟨nd, rfl⟩⟩
  refine ⟨_, rfl, ?_⟩
  refine hK.out _ _ trivial (fun hHeld => ?_)
  clear hK K
  refine norm_ (a' := ?_) ?_ ?_
  rotate_left
  ·
   show Act.put _ (some 24) _ = _
   simp only [Act.put, List.setIfInBounds_toArray, List.set_cons_zero, List.set_cons_succ, i64_w, i32_w, IntKind.wrap_u32]
   rfl
  refine pure_ (i := 2) (N := some 25) (v := ?_) (a' := ?_) #[true, true, true, false, false, false, false, false, false, false, false, false, false, false, false, false, false, false, false, false, false, false, false, false, false, false] rfl rfl (any_of HT_.out (by kernel_rfl)) (fun _ _ _ h => h) (Or.inl ⟨by rfl, ?_⟩) ?_ ?_
  rotate_left
  ·
   intro w'
   go_simp
   with_reducible rfl
  rotate_left
  ·
   simp only [Act.put, List.setIfInBounds_toArray, List.set_cons_zero, List.set_cons_succ, i64_w, i32_w, IntKind.wrap_u32]
   rfl
  refine one_ (i := 3) (N := some 26) #[true, true, true, true, false, false, false, false, false, false, false, false, false, false, false, false, false, false, false, false, false, false, false, false, false, false] rfl rfl (one_of HT_.out (by kernel_rfl)) (by decide) (fun K hK => ?_)
  refine goes_ Try.func18 (by kernel_rfl) rfl #[.int .u32 65000, .int .u32 7] (by rfl) rfl rfl (by (try simp only [List.map_toArray, List.map_cons, List.map_nil]); first | done | rfl | (simp only [List.length_drop, List.length_take]; rfl)) ?_
  with_reducible refine (q7z.calls 65000 7 t20 _ A11.out).mono ?_
  rintro e w' ⟨rfl, ⟨nd, rfl⟩⟩
  refine ⟨_, rfl, ?_⟩
  refine hK.out _ _ trivial (fun hHeld => ?_)
  clear hK K
  refine norm_ (a' := ?_) ?_ ?_
  rotate_left
  ·
   show Act.put _ (some 26) _ = _
   simp only [Act.put, List.setIfInBounds_toArray, List.set_cons_zero, List.set_cons_succ, i64_w, i32_w, IntKind.wrap_u32]
   rfl
  refine one_ (i := 4) (N := some 27) #[true, true, true, true, true, false, false, false, false, false, false, false, false, false, false, false, false, false, false, false, false, false, false, false, false, false] rfl rfl (one_of HT_.out (by kernel_rfl)) (by decide) (fun K hK => ?_)
  refine goes_ Try.func11 (by kernel_rfl) rfl #[.agg #[.int .u32 t18, .int .u32 t19], .int .u32 t20] (by rfl) rfl rfl (by (try simp only [List.map_toArray, List.map_cons, List.map_nil]); first | done | rfl | (simp only [List.length_drop, List.length_take]; rfl)) ?_
  with_reducible refine (plane_In.calls t18 t19 t20 false _ A12.out).mono ?_
  rintro e w69 ⟨rfl, hb⟩
  refine ⟨_, rfl, ?_⟩
  have n0_ := Aside0.mk (Kd.R_below (by (with_reducible repeat (first | apply Kd.R_alloc | apply Kd.R_drewN | apply Kd.R_drew)); exact HO13.out) hb)
  have n1_ := Aside0.mk (Kd.R_below (by (with_reducible repeat (first | apply Kd.R_alloc | apply Kd.R_drewN | apply Kd.R_drew)); exact HO17.out) hb)
  have n2_ := Aside0.mk (blk_below (g := gb8) (o := .cells #[.int .u32 t5, .int .u32 t6] 24 (0, 0)) (by (with_reducible repeat (first | refine blk_drewN ?_ _ | refine blk_drew ?_ | refine blk_alloc ?_ _)); exact BK8.out) hb)
  have n3_ := Aside0.mk (below_step (by repeat (first | (with_reducible first | exact HB.out | apply below_alloc | apply pw_below_drewN | apply below_drew1 | refine below_set ?_ GE8.out) | exact HB.out)) hb)
  clear HO13
  clear HO17
  clear BK8
  clear HB
  have HO13 := n0_
  have HO17 := n1_
  have BK8 := n2_
  have HB := n3_
  clear n0_ n1_ n2_ n3_
  (try clear hb)
  (try clear hb2)
  (try clear hk)
  (try clear hi)
  refine hK.out _ _ trivial (fun hHeld => ?_)
  clear hK K
  refine norm_ (a' := ?_) ?_ ?_
  rotate_left
  ·
   show Act.put _ (some 27) _ = _
   simp only [Act.put, List.setIfInBounds_toArray, List.set_cons_zero, List.set_cons_succ, i64_w, i32_w, IntKind.wrap_u32]
   rfl
  refine pure_ (i := 5) (N := some 28) (v := ?_) (a' := ?_) #[true, true, true, true, true, true, false, false, false, false, false, false, false, false, false, false, false, false, false, false, false, false, false, false, false, false] rfl rfl (any_of HT_.out (by kernel_rfl)) (fun _ _ _ h => h) (Or.inl ⟨by rfl, ?_⟩) ?_ ?_
  rotate_left
  ·
   intro w'
   go_simp
   with_reducible rfl
  rotate_left
  ·
   simp only [Act.put, List.setIfInBounds_toArray, List.set_cons_zero, List.set_cons_succ, i64_w, i32_w, IntKind.wrap_u32]
   rfl
  refine pure_ (i := 6) (N := some 29) (v := undef) (a' := ?_) #[true, true, true, true, true, true, true, false, false, false, false, false, false, false, false, false, false, false, false, false, false, false, false, false, false, false] rfl rfl (any_of HT_.out (by kernel_rfl)) (fun _ _ _ h => h) (Or.inr ⟨by rfl, rfl⟩) ?_ ?_
  rotate_left
  ·
   simp only [Act.put, List.setIfInBounds_toArray, List.set_cons_zero, List.set_cons_succ, i64_w, i32_w, IntKind.wrap_u32]
   rfl
  refine pure_ (i := 7) (N := some 30) (v := ?_) (a' := ?_) #[true, true, true, true, true, true, true, true, false, false, false, false, false, false, false, false, false, false, false, false, false, false, false, false, false, false] rfl rfl (any_of HT_.out (by kernel_rfl)) (fun _ _ _ h => h) (Or.inl ⟨by rfl, ?_⟩) ?_ ?_
  rotate_left
  ·
   intro w'
   go_simp
   with_reducible rfl
  rotate_left
  ·
   simp only [Act.put, List.setIfInBounds_toArray, List.set_cons_zero, List.set_cons_succ, i64_w, i32_w, IntKind.wrap_u32]
   rfl
  refine pure_ (i := 8) (N := some 31) (v := ?_) (a' := ?_) #[true, true, true, true, true, true, true, true, true, false, false, false, false, false, false, false, false, false, false, false, false, false, false, false, false, false] rfl rfl (any_of HT_.out (by kernel_rfl)) (fun _ _ _ h => h) (Or.inl ⟨by rfl, ?_⟩) ?_ ?_
  rotate_left
  ·
   intro w'
   go_simp
   with_reducible rfl
  rotate_left
  ·
   simp only [Act.put, List.setIfInBounds_toArray, List.set_cons_zero, List.set_cons_succ, i64_w, i32_w, IntKind.wrap_u32]
   rfl
  refine pure_ (i := 9) (N := some 32) (v := undef) (a' := ?_) #[true, true, true, true, true, true, true, true, true, true, false, false, false, false, false, false, false, false, false, false, false, false, false, false, false, false] rfl rfl (any_of HT_.out (by kernel_rfl)) (fun _ _ _ h => h) (Or.inr ⟨by rfl, rfl⟩) ?_ ?_
  rotate_left
  ·
   simp only [Act.put, List.setIfInBounds_toArray, List.set_cons_zero, List.set_cons_succ, i64_w, i32_w, IntKind.wrap_u32]
   rfl
  refine pure_ (i := 10) (N := some 33) (v := undef) (a' := ?_) #[true, true, true, true, true, true, true, true, true, true, true, false, false, false, false, false, false, false, false, false, false, false, false, false, false, false] rfl rfl (any_of HT_.out (by kernel_rfl)) (fun _ _ _ h => h) (Or.inr ⟨by rfl, rfl⟩) ?_ ?_
  rotate_left
  ·
   simp only [Act.put, List.setIfInBounds_toArray, List.set_cons_zero, List.set_cons_succ, i64_w, i32_w, IntKind.wrap_u32]
   rfl
  refine pure_ (i := 11) (N := some 34) (v := undef) (a' := ?_) #[true, true, true, true, true, true, true, true, true, true, true, true, false, false, false, false, false, false, false, false, false, false, false, false, false, false] rfl rfl (any_of HT_.out (by kernel_rfl)) (fun _ _ _ h => h) (Or.inr ⟨by rfl, rfl⟩) ?_ ?_
  rotate_left
  ·
   simp only [Act.put, List.setIfInBounds_toArray, List.set_cons_zero, List.set_cons_succ, i64_w, i32_w, IntKind.wrap_u32]
   rfl
  refine pure_ (i := 12) (N := some 35) (v := undef) (a' := ?_) #[true, true, true, true, true, true, true, true, true, true, true, true, true, false, false, false, false, false, false, false, false, false, false, false, false, false] rfl rfl (any_of HT_.out (by kernel_rfl)) (fun _ _ _ h => h) (Or.inr ⟨by rfl, rfl⟩) ?_ ?_
  rotate_left
  ·
   simp only [Act.put, List.setIfInBounds_toArray, List.set_cons_zero, List.set_cons_succ, i64_w, i32_w, IntKind.wrap_u32]
   rfl
  refine pure_ (i := 13) (N := some 36) (v := undef) (a' := ?_) #[true, true, true, true, true, true, true, true, true, true, true, true, true, true, false, false, false, false, false, false, false, false, false, false, false, false] rfl rfl (any_of HT_.out (by kernel_rfl)) (fun _ _ _ h => h) (Or.inr ⟨by rfl, rfl⟩) ?_ ?_
  rotate_left
  ·
   simp only [Act.put, List.setIfInBounds_toArray, List.set_cons_zero, List.set_cons_succ, i64_w, i32_w, IntKind.wrap_u32]
   rfl
  refine pure_ (i := 14) (N := some 37) (v := ?_) (a' := ?_) #[true, true, true, true, true, true, true, true, true, true, true, true, true, true, true, false, false, false, false, false, false, false, false, false, false, false] rfl rfl (any_of HT_.out (by kernel_rfl)) (fun _ _ _ h => h) (Or.inl ⟨by rfl, ?_⟩) ?_ ?_
  rotate_left
  ·
   intro w'
   go_simp
   with_reducible rfl
  rotate_left
  ·
   simp only [Act.put, List.setIfInBounds_toArray, List.set_cons_zero, List.set_cons_succ, i64_w, i32_w, IntKind.wrap_u32]
   rfl
  refine pure_ (i := 15) (N := some 38) (v := ?_) (a' := ?_) #[true, true, true, true, true, true, true, true, true, true, true, true, true, true, true, true, false, false, false, false, false, false, false, false, false, false] rfl rfl (any_of HT_.out (by kernel_rfl)) (fun _ _ _ h => h) (Or.inl ⟨by rfl, ?_⟩) ?_ ?_
  rotate_left
  ·
   intro w'
   go_simp
   with_reducible rfl
  rotate_left
  ·
   simp only [Act.put, List.setIfInBounds_toArray, List.set_cons_zero, List.set_cons_succ, i64_w, i32_w, IntKind.wrap_u32]
   rfl
  refine pure_ (i := 16) (N := some 39) (v := undef) (a' := ?_) #[true, true, true, true, true, true, true, true, true, true, true, true, true, true, true, true, true, false, false, false, false, false, false, false, false, false] rfl rfl (any_of HT_.out (by kernel_rfl)) (fun _ _ _ h => h) (Or.inr ⟨by rfl, rfl⟩) ?_ ?_
  rotate_left
  ·
   simp only [Act.put, List.setIfInBounds_toArray, List.set_cons_zero, List.set_cons_succ, i64_w, i32_w, IntKind.wrap_u32]
   rfl
  refine pure_ (i := 17) (N := some 40) (v := undef) (a' := ?_) #[true, true, true, true, true, true, true, true, true, true, true, true, true, true, true, true, true, true, false, false, false, false, false, false, false, false] rfl rfl (any_of HT_.out (by kernel_rfl)) (fun _ _ _ h => h) (Or.inr ⟨by rfl, rfl⟩) ?_ ?_
  rotate_left
  ·
   simp only [Act.put, List.setIfInBounds_toArray, List.set_cons_zero, List.set_cons_succ, i64_w, i32_w, IntKind.wrap_u32]
   rfl
  refine pure_ (i := 18) (N := some 41) (v := ?_) (a' := ?_) #[true, true, true, true, true, true, true, true, true, true, true, true, true, true, true, true, true, true, true, false, false, false, false, false, false, false] rfl rfl (any_of HT_.out (by kernel_rfl)) (fun _ _ _ h => h) (Or.inl ⟨by rfl, ?_⟩) ?_ ?_
  rotate_left
  ·
   intro w'
   go_simp
   with_reducible rfl
  rotate_left
  ·
   simp only [Act.put, List.setIfInBounds_toArray, List.set_cons_zero, List.set_cons_succ, i64_w, i32_w, IntKind.wrap_u32]
   rfl
  refine pure_ (i := 19) (N := some 42) (v := ?_) (a' := ?_) #[true, true, true, true, true, true, true, true, true, true, true, true, true, true, true, true, true, true, true, true, false, false, false, false, false, false] rfl rfl (any_of HT_.out (by kernel_rfl)) (fun _ _ _ h => h) (Or.inl ⟨by rfl, ?_⟩) ?_ ?_
  rotate_left
  ·
   intro w'
   go_simp
   with_reducible rfl
  rotate_left
  ·
   simp only [Act.put, List.setIfInBounds_toArray, List.set_cons_zero, List.set_cons_succ, i64_w, i32_w, IntKind.wrap_u32]
   rfl
  refine pure_ (i := 20) (N := some 43) (v := undef) (a' := ?_) #[true, true, true, true, true, true, true, true, true, true, true, true, true, true, true, true, true, true, true, true, true, false, false, false, false, false] rfl rfl (any_of HT_.out (by kernel_rfl)) (fun _ _ _ h => h) (Or.inr ⟨by rfl, rfl⟩) ?_ ?_
  rotate_left
  ·
   simp only [Act.put, List.setIfInBounds_toArray, List.set_cons_zero, List.set_cons_succ, i64_w, i32_w, IntKind.wrap_u32]
   rfl
  refine pure_ (i := 21) (N := some 44) (v := undef) (a' := ?_) #[true, true, true, true, true, true, true, true, true, true, true, true, true, true, true, true, true, true, true, true, true, true, false, false, false, false] rfl rfl (any_of HT_.out (by kernel_rfl)) (fun _ _ _ h => h) (Or.inr ⟨by rfl, rfl⟩) ?_ ?_
  rotate_left
  ·
   simp only [Act.put, List.setIfInBounds_toArray, List.set_cons_zero, List.set_cons_succ, i64_w, i32_w, IntKind.wrap_u32]
   rfl
  refine pure_ (i := 22) (N := some 45) (v := undef) (a' := ?_) #[true, true, true, true, true, true, true, true, true, true, true, true, true, true, true, true, true, true, true, true, true, true, true, false, false, false] rfl rfl (any_of HT_.out (by kernel_rfl)) (fun _ _ _ h => h) (Or.inr ⟨by rfl, rfl⟩) ?_ ?_
  rotate_left
  ·
   simp only [Act.put, List.setIfInBounds_toArray, List.set_cons_zero, List.set_cons_succ, i64_w, i32_w, IntKind.wrap_u32]
   rfl
  refine pure_ (i := 23) (N := some 46) (v := undef) (a' := ?_) #[true, true, true, true, true, true, true, true, true, true, true, true, true, true, true, true, true, true, true, true, true, true, true, true, false, false] rfl rfl (any_of HT_.out (by kernel_rfl)) (fun _ _ _ h => h) (Or.inr ⟨by rfl, rfl⟩) ?_ ?_
  rotate_left
  ·
   simp only [Act.put, List.setIfInBounds_toArray, List.set_cons_zero, List.set_cons_succ, i64_w, i32_w, IntKind.wrap_u32]
   rfl
  refine pure_ (i := 24) (N := some 47) (v := ?_) (a' := ?_) #[true, true, true, true, true, true, true, true, true, true, true, true, true, true, true, true, true, true, true, true, true, true, true, true, true, false] rfl rfl (any_of HT_.out (by kernel_rfl)) (fun _ _ _ h => h) (Or.inl ⟨by rfl, ?_⟩) ?_ ?_
  rotate_left
  ·
   intro w'
   go_simp
   with_reducible rfl
  rotate_left
  ·
   simp only [Act.put, List.setIfInBounds_toArray, List.set_cons_zero, List.set_cons_succ, i64_w, i32_w, IntKind.wrap_u32]
   rfl
  refine pure_ (i := 25) (N := some 0) (v := ?_) (a' := ?_) #[true, true, true, true, true, true, true, true, true, true, true, true, true, true, true, true, true, true, true, true, true, true, true, true, true, true] rfl rfl (any_of HT_.out (by kernel_rfl)) (fun _ _ _ h => h) (Or.inl ⟨by rfl, ?_⟩) ?_ ?_
  rotate_left
  ·
   intro w'
   go_simp
   with_reducible rfl
  rotate_left
  ·
   simp only [Act.put, List.setIfInBounds_toArray, List.set_cons_zero, List.set_cons_succ, i64_w, i32_w, IntKind.wrap_u32]
   rfl
  refine done_ (done_of HT_.out (by kernel_rfl)) ?_
  try go_wp2
  go_ret
  exact ⟨by first | rfl | (simp [errW_none, errW_some] <;> rfl) | (simp [*, errW_none, errW_some] <;> rfl), by repeat (first | (with_reducible first | exact HB.out | apply below_alloc | apply pw_below_drewN | apply below_drew1 | refine below_set ?_ GE8.out) | exact HB.out)⟩

end Go.Proofs.Ytdkbfcogmlghfaa.P

namespace Go.Proofs.Ytdkbfcogmlghfaa.P
open Go.RowKit Go.Proofs.YtdkbfcogmlghfaaW.PrintWords Go.Proofs.YtdkbfcogmlghfaaW.PrintLast Go.Proofs.YtdkbfcogmlghfaaW.PrintMore
attribute [local go_sem] max2_int min2_int max_two min_two max_three min_three max_four min_four
set_option linter.unusedVariables false
set_option linter.unusedSimpArgs false

attribute [local go_sem high] eqA24
/-! ### dragomanlaw02_PlaneCells: function 4 -/
mutual
def q10z.j0 : Nat → List (S24) → Bool → Option (Bool)
 | 0, _, _ => none
 | k + 1, x0, x18 => if x18 = true then (some true) else ((some (([] : List (S24)) : List (S24))).bind fun y2 => (if y2.length + x0.length < 17592186044416 then ((some (y2 ++ x0 : List (S24))).bind fun y5 => ((plane_Cells.f k y5).bind fun bt8 => ((q5z.f k x0).bind fun bt12 => (if bt8.2 = bt12.2 then ((q6z.f k bt8.1 bt12.1).bind fun t16 => (q10z.j1 k x0 y5 (!t16))) else (q10z.j1 k x0 y5 true))))) else (none)))
def q10z.j1 : Nat → List (S24) → List (S24) → Bool → Option (Bool)
 | 0, _, _, _ => none
 | k + 1, x0, x3, x40 => if x40 = true then (some false) else (q10z.l0 k x0 x3 (x0.length : Int) 0)
def q10z.l0 : Nat → List (S24) → List (S24) → Int → Int → Option (Bool)
 | 0, _, _, _, _ => none
 | k + 1, x0, x3, x42, x43 => if x43 < x42 then (if 0 ≤ x43 then (if x43 < (x3.length : Int) then (if x43 < (x0.length : Int) then (if (!(((rd_T24 x3 x43).f0) == ((rd_T24 x0 x43).f0)) || (!(((rd_T24 x3 x43).f1) == ((rd_T24 x0 x43).f1)))) = true then (some false) else (q10z.l0 k x0 x3 x42 (wrap64 (x43 + 1)))) else (none)) else (none)) else (none)) else (some true)
end
def q10z.f (k : Nat) (l0 : List (S24)) : Option (Bool) := (q9z.f k).bind fun t1 => (if t1 = true then (if (l0.length : Int) > 8 then (q10z.j0 k l0 (decide ((l0.length : Int) ≤ 64))) else (q10z.j0 k l0 false)) else (some false))
theorem q10z.mono_l : ∀ k, (∀ y0 y1, LeO (q10z.j0 k y0 y1) (q10z.j0 (k + 1) y0 y1)) ∧ (∀ y0 y1 y2, LeO (q10z.j1 k y0 y1 y2) (q10z.j1 (k + 1) y0 y1 y2)) ∧ (∀ y0 y1 y2 y3, LeO (q10z.l0 k y0 y1 y2 y3) (q10z.l0 (k + 1) y0 y1 y2 y3))
 | 0 => ⟨fun _ _ r h => by simp [q10z.j0] at h, fun _ _ _ r h => by simp [q10z.j1] at h, fun _ _ _ _ r h => by simp [q10z.l0] at h⟩
 | k + 1 => by
  obtain ⟨ih0, ih1, ih2⟩ := q10z.mono_l k
  refine ⟨?_, ?_, ?_⟩
  ·
   intro y0 y1
   unfold q10z.j0
   repeat' first
   | (with_reducible exact ih0 _ _)
   | (with_reducible exact ih1 _ _ _)
   | (with_reducible exact ih2 _ _ _ _)
   | (with_reducible exact q9z.mono _)
   | (with_reducible exact q6z.mono _ _ _)
   | (with_reducible exact q5z.mono _ _)
   | (with_reducible exact plane_Cells.mono _ _)
   | (with_reducible exact LeO.refl _)
   | (with_reducible exact LeO.none _)
   | (with_reducible refine LeO.ite ?_ ?_)
   | (with_reducible refine LeO.bind ?_ (fun _ => ?_))
   | exact ih0 _ _
   | exact ih1 _ _ _
   | exact ih2 _ _ _ _
   | exact q9z.mono _
   | exact q6z.mono _ _ _
   | exact q5z.mono _ _
   | exact plane_Cells.mono _ _
   | exact LeO.none _
   | refine LeO.ite ?_ ?_
   | refine LeO.bind ?_ (fun _ => ?_)
  ·
   intro y0 y1 y2
   unfold q10z.j1
   repeat' first
   | (with_reducible exact ih0 _ _)
   | (with_reducible exact ih1 _ _ _)
   | (with_reducible exact ih2 _ _ _ _)
   | (with_reducible exact q9z.mono _)
   | (with_reducible exact q6z.mono _ _ _)
   | (with_reducible exact q5z.mono _ _)
   | (with_reducible exact plane_Cells.mono _ _)
   | (with_reducible exact LeO.refl _)
   | (with_reducible exact LeO.none _)
   | (with_reducible refine LeO.ite ?_ ?_)
   | (with_reducible refine LeO.bind ?_ (fun _ => ?_))
   | exact ih0 _ _
   | exact ih1 _ _ _
   | exact ih2 _ _ _ _
   | exact q9z.mono _
   | exact q6z.mono _ _ _
   | exact q5z.mono _ _
   | exact plane_Cells.mono _ _
   | exact LeO.none _
   | refine LeO.ite ?_ ?_
   | refine LeO.bind ?_ (fun _ => ?_)
  ·
   intro y0 y1 y2 y3
   unfold q10z.l0
   repeat' first
   | (with_reducible exact ih0 _ _)
   | (with_reducible exact ih1 _ _ _)
   | (with_reducible exact ih2 _ _ _ _)
   | (with_reducible exact q9z.mono _)
   | (with_reducible exact q6z.mono _ _ _)
   | (with_reducible exact q5z.mono _ _)
   | (with_reducible exact plane_Cells.mono _ _)
   | (with_reducible exact LeO.refl _)
   | (with_reducible exact LeO.none _)
   | (with_reducible refine LeO.ite ?_ ?_)
   | (with_reducible refine LeO.bind ?_ (fun _ => ?_))
   | exact ih0 _ _
   | exact ih1 _ _ _
   | exact ih2 _ _ _ _
   | exact q9z.mono _
   | exact q6z.mono _ _ _
   | exact q5z.mono _ _
   | exact plane_Cells.mono _ _
   | exact LeO.none _
   | refine LeO.ite ?_ ?_
   | refine LeO.bind ?_ (fun _ => ?_)
theorem q10z.mono : ∀ a0 k, LeO (q10z.f k a0) (q10z.f (k + 1) a0) := by
 intro a0 k
 obtain ⟨ih0, ih1, ih2⟩ := q10z.mono_l k
 unfold q10z.f
 repeat' first
   | (with_reducible exact ih0 _ _)
   | (with_reducible exact ih1 _ _ _)
   | (with_reducible exact ih2 _ _ _ _)
   | (with_reducible exact q9z.mono _)
   | (with_reducible exact q6z.mono _ _ _)
   | (with_reducible exact q5z.mono _ _)
   | (with_reducible exact plane_Cells.mono _ _)
   | (with_reducible exact LeO.refl _)
   | (with_reducible exact LeO.none _)
   | (with_reducible refine LeO.ite ?_ ?_)
   | (with_reducible refine LeO.bind ?_ (fun _ => ?_))
   | exact ih0 _ _
   | exact ih1 _ _ _
   | exact ih2 _ _ _ _
   | exact q9z.mono _
   | exact q6z.mono _ _ _
   | exact q5z.mono _ _
   | exact plane_Cells.mono _ _
   | exact LeO.none _
   | refine LeO.ite ?_ ?_
   | refine LeO.bind ?_ (fun _ => ?_)
set_option maxHeartbeats 8000000 in
set_option maxRecDepth 100000 in
theorem q10z.calls (k : Nat) (A0 : Option Addr) (c0 : Nat) (l0 : List (S24)) (r : Bool) (w : World) (hr0 : Kd.C k24 w A0 l0.length l0) (hc0 : l0.length ≤ c0) (h : q10z.f k l0 = some r) :
  Calls Try.prog 4 #[.slice A0 l0.length c0] w fun e w' => e = .returned (.bool r) ∧ Below w.heap.size w w' := by
 have hu24 := Try.underlying24
 have HR0 := Aside0.mk hr0
 have HC0 := Aside0.mk hc0
 clear hr0 hc0
 have HB := Aside0.mk (Below.refl w.heap.size w)
 have H : ((q9z.f k).bind fun t1 => (if t1 = true then (if (l0.length : Int) > 8 then (q10z.j0 k l0 (decide ((l0.length : Int) ≤ 64))) else (q10z.j0 k l0 false)) else (some false))) = some r := h
 clear h
 replace H := Option.bind_eq_some_iff.mp H
 obtain ⟨t1, A20, H⟩ := H
 replace H : (if t1 = true then (if (l0.length : Int) > 8 then (q10z.j0 k l0 (decide ((l0.length : Int) ≤ 64))) else (q10z.j0 k l0 false)) else (some false)) = some r := H
 have A2 := Aside0.mk A20
 clear A20
 by_cases c3 : t1 = true
 ·
  subst c3
  have H1 : (if (l0.length : Int) > 8 then (q10z.j0 k l0 (decide ((l0.length : Int) ≤ 64))) else (q10z.j0 k l0 false)) = some r := by rw [if_pos rfl] at H; exact H
  clear H
  have H := H1
  clear H1
  have HC4 := Aside0.mk H
  clear H
  go_enter Try.func4, Try.ntmps4
  go_upto_region 3 with (first | (go_at_call 8; (with_reducible refine (q9z.calls k  true _ A2.out).mono ?_); rintro e w5 ⟨rfl, hb⟩; have n0_ := Aside0.mk (below_step (by repeat (first | (with_reducible first | exact HB.out | apply below_alloc | apply pw_below_drewN | apply below_drew1) | exact HB.out)) hb); clear HB; have HB := n0_; clear n0_; (try clear hb); (try clear hb2); (try clear hk); (try clear hi)))
  repeat (go_quiet (first | (go_at_call 8; (with_reducible refine (q9z.calls k  true _ A2.out).mono ?_); rintro e w5 ⟨rfl, hb⟩; have n0_ := Aside0.mk (below_step (by repeat (first | (with_reducible first | exact HB.out | apply below_alloc | apply pw_below_drewN | apply below_drew1) | exact HB.out)) hb); clear HB; have HB := n0_; clear n0_; (try clear hb); (try clear hb2); (try clear hk); (try clear hi))); go_upto_region 3 with (first | (go_at_call 8; (with_reducible refine (q9z.calls k  true _ A2.out).mono ?_); rintro e w5 ⟨rfl, hb⟩; have n0_ := Aside0.mk (below_step (by repeat (first | (with_reducible first | exact HB.out | apply below_alloc | apply pw_below_drewN | apply below_drew1) | exact HB.out)) hb); clear HB; have HB := n0_; clear n0_; (try clear hb); (try clear hb2); (try clear hk); (try clear hi))))
  (try simp only [Act.put, List.setIfInBounds_toArray, List.set_cons_zero, List.set_cons_succ])
  go_cut [18] (fun v18 wc => ∃ (kq : Nat) (x18_3 : Bool), v18 = .bool x18_3 ∧ Aside0 (q10z.j0 kq l0 x18_3 = some r) ∧ Aside0 (kq ≤ k) ∧ Aside0 (Below w.heap.size w wc))
  case first =>
   have H := HC4.out
   clear HC4
   by_cases c6 : (l0.length : Int) > 8
   ·
    rw [if_pos c6] at H
    have c6b0 : decide (8 < (l0.length : Int)) = true := decide_eq_true c6
    have c6b1 : decide (8 < l0.length) = true := decide_eq_true (by omega)
    clear c6
    (first | rw [c6b0] | (simp only [i64_w, i32_w, IntKind.wrap_u32]; rw [c6b0]) | skip)
    have H' := Aside0.mk H
    clear H
    go_wp2
    repeat (go_quiet (fail); try go_wp2)
    go_meet
    case rel => exact ⟨_, (decide ((l0.length : Int) ≤ 64)), (by first | rfl | (simp; done) | (simp [*]; done)), H', ⟨by first | omega | exact Nat.le_refl _⟩, ⟨by repeat (first | (with_reducible first | exact HB.out | apply below_alloc | apply pw_below_drewN | apply below_drew1) | exact HB.out)⟩⟩
   ·
    rw [if_neg c6] at H
    have c6b0 : decide (8 < (l0.length : Int)) = false := decide_eq_false c6
    have c6b1 : decide (8 < l0.length) = false := decide_eq_false (by omega)
    clear c6
    (first | rw [c6b0] | (simp only [i64_w, i32_w, IntKind.wrap_u32]; rw [c6b0]) | skip)
    have H' := Aside0.mk H
    clear H
    go_wp2
    repeat (go_quiet (fail); try go_wp2)
    go_meet
    case rel => exact ⟨_, (false), (by first | rfl | (simp; done) | (simp [*]; done)), H', ⟨by first | omega | exact Nat.le_refl _⟩, ⟨by repeat (first | (with_reducible first | exact HB.out | apply below_alloc | apply pw_below_drewN | apply below_drew1) | exact HB.out)⟩⟩
  case rest =>
   clear HC4
   try clear p2
   try clear c3
   try clear c4
   try clear c6
   try clear c6b0
   try clear c6b1
   obtain ⟨kq, x18_3, rfl, HA, HJ3, HB⟩ := hcut
   cases kq with
   | zero => exact absurd HA.out (by simp [q10z.j0])
   | succ kj3 =>
    have H := HA.out
    clear HA
    simp only [q10z.j0] at H
    by_cases c7 : x18_3 = true
    ·
     subst c7
     have H1 : (some true) = some r := by rw [if_pos rfl] at H; exact H
     clear H
     have H := H1
     clear H1
     obtain rfl := Option.some.inj H
     go_wp2
     repeat (go_quiet (fail); try go_wp2)
     go_ret
     exact ⟨by first | rfl | (simp [errW_none, errW_some] <;> rfl) | (simp [*, errW_none, errW_some] <;> rfl), by repeat (first | (with_reducible first | exact HB.out | apply below_alloc | apply pw_below_drewN | apply below_drew1) | exact HB.out)⟩
    ·
     replace c7 := Bool.eq_false_iff.mpr c7
     subst c7
     have H1 : ((some (([] : List (S24)) : List (S24))).bind fun y2 => (if y2.length + l0.length < 17592186044416 then ((some (y2 ++ l0 : List (S24))).bind fun y5 => ((plane_Cells.f kj3 y5).bind fun bt8 => ((q5z.f kj3 l0).bind fun bt12 => (if bt8.2 = bt12.2 then ((q6z.f kj3 bt8.1 bt12.1).bind fun t16 => (q10z.j1 kj3 l0 y5 (!t16))) else (q10z.j1 kj3 l0 y5 true))))) else (none))) = some r := by rw [if_neg (show ¬ (false = true) by decide)] at H; exact H
     clear H
     have H := H1
     clear H1
     obtain ⟨y2, hy2⟩ : ∃ y_ : List (S24), y_ = (([] : List (S24))) := ⟨_, rfl⟩
     replace H : (if y2.length + l0.length < 17592186044416 then ((some (y2 ++ l0 : List (S24))).bind fun y5 => ((plane_Cells.f kj3 y5).bind fun bt8 => ((q5z.f kj3 l0).bind fun bt12 => (if bt8.2 = bt12.2 then ((q6z.f kj3 bt8.1 bt12.1).bind fun t16 => (q10z.j1 kj3 l0 y5 (!t16))) else (q10z.j1 kj3 l0 y5 true))))) else (none)) = some r := by first | (rw [hy2]; with_reducible exact H) | (have H2_ := (Option.bind_some _ _).symm.trans H; rw [hy2]; with_reducible exact H2_) | (have H2_ := (Option.bind_some _ _).symm.trans H; with_reducible exact H2_) | with_reducible exact H | (rw [hy2]; exact H) | exact H
     have Ny2 := Aside0.mk hy2
     clear hy2
     by_cases c8 : y2.length + l0.length < 17592186044416
     ·
      rw [if_pos c8] at H
      have LMc8 := Aside0.mk c8
      clear c8
      obtain ⟨y5, hy5⟩ : ∃ y_ : List (S24), y_ = (y2 ++ l0) := ⟨_, rfl⟩
      replace H : ((plane_Cells.f kj3 y5).bind fun bt8 => ((q5z.f kj3 l0).bind fun bt12 => (if bt8.2 = bt12.2 then ((q6z.f kj3 bt8.1 bt12.1).bind fun t16 => (q10z.j1 kj3 l0 y5 (!t16))) else (q10z.j1 kj3 l0 y5 true)))) = some r := by first | (rw [hy5]; with_reducible exact H) | (have H2_ := (Option.bind_some _ _).symm.trans H; rw [hy5]; with_reducible exact H2_) | (have H2_ := (Option.bind_some _ _).symm.trans H; with_reducible exact H2_) | with_reducible exact H | (rw [hy5]; exact H) | exact H
      have Ny5 := Aside0.mk hy5
      clear hy5
      replace H := Option.bind_eq_some_iff.mp H
      obtain ⟨⟨t8, t9⟩, A90, H⟩ := H
      replace H : ((q5z.f kj3 l0).bind fun bt12 => (if t9 = bt12.2 then ((q6z.f kj3 t8 bt12.1).bind fun t16 => (q10z.j1 kj3 l0 y5 (!t16))) else (q10z.j1 kj3 l0 y5 true))) = some r := H
      have A9 := Aside0.mk A90
      clear A90
      replace H := Option.bind_eq_some_iff.mp H
      obtain ⟨⟨t12, t13⟩, A100, H⟩ := H
      replace H : (if t9 = t13 then ((q6z.f kj3 t8 t12).bind fun t16 => (q10z.j1 kj3 l0 y5 (!t16))) else (q10z.j1 kj3 l0 y5 true)) = some r := H
      have A10 := Aside0.mk A100
      clear A100
      have HC11 := Aside0.mk H
      clear H
      go_upto_region 8 with (first | ((with_reducible refine gate_dst (N := 19) rfl ?_); (try (refine gate_guard (by rfl) ?_; dsimp only)); refine Kd.R_lit k24 _ 24 ?hg (N := 19) ?hd (xs := ([] : List (S24))) (inner := []) (ok := fun _ => True) (okp := fun _ => True) ?hr ?hp (fun _ hk => hk) trivial (Below.refl _ _) (Nat.le_refl _) (by simp) ?_; (case hd => rfl); (case hg => rfl); (case hr => first | (go_simp; done) | (go_simp; rfl)); (case hp => exact (Reps.none _ _)); intro v3 w12 ho13 hb hg_ hnew_; clear hg_ hnew_; (first | rw [← Ny2.out] at ho13 | (simp only [Int.reduceToNat] at ho13; rw [← Ny2.out] at ho13)); have n0_ := Aside0.mk (Kd.R_lower ho13 (below_size (by repeat (first | (with_reducible first | exact HB.out | apply below_alloc | apply pw_below_drewN | apply below_drew1) | exact HB.out)))); have n1_ := Aside0.mk (below_step (by repeat (first | (with_reducible first | exact HB.out | apply below_alloc | apply pw_below_drewN | apply below_drew1) | exact HB.out)) hb); clear HB; have HO4 := n0_; have HB := n1_; clear n0_ n1_; clear hb ho13) | ((with_reducible refine gate_builtin (b := .append) (xs := #[.tmp 19, .tmp 20]) rfl ?_); (try (refine gate_guard (by rfl) ?_; dsimp only)); at_builtin; refine Kd.R_append_rows k24 (w0 := w) w.heap.size rfl (.tmp 19) (.tmp 20) 30 24 (.agg #[(.int .u32 0), (.int .u32 0)]) 8 rfl Try.underlying30 info24 rfl (by decide) (by omega) v3 y2 l0 _ _ _ (fun _ => True) (fun _ => False) rfl rfl ?aO ?aR (fun _ _ h => h) (fun _ h => h.elim) ?aF ?aB ?aS ?aL ?_; (case aR => repeat (first | exact (Kd.C_below HR0.out HB.out) | (with_reducible refine Kd.C_alloc ?_ _) | (with_reducible refine Kd.C_drewN ?_ _) | (with_reducible refine Kd.C_drew ?_))); (case aB => exact (by repeat (first | (with_reducible first | exact HB.out | apply below_alloc | apply pw_below_drewN | apply below_drew1) | exact HB.out))); (case aF => exact (fun _ _ => trivial)); (case aO => exact (by (with_reducible repeat (first | apply Kd.R_alloc | apply Kd.R_drewN | apply Kd.R_drew)); exact HO4.out)); (case aS => exact (below_size (by repeat (first | (with_reducible first | exact HB.out | apply below_alloc | apply pw_below_drewN | apply below_drew1) | exact HB.out)))); (case aL => have := LMc8.out; omega); intro v6 w14 ho hb hg hat; rw [← Ny5.out] at ho; have n0_ := Aside0.mk (hb); have n1_ := Aside0.mk (ho); clear HB; clear HO4; have HB := n0_; have HO7 := n1_; clear n0_ n1_; clear ho hb hg hat; obtain ⟨Ao15, co15, eo15⟩ := Kd.R_slice HO7.out; subst eo15) | (go_at_call 12; (with_reducible refine (plane_Cells.calls kj3 _ _ y5 t8 t9 _ ?side1 ?side2 A9.out).mono ?_); (case side1 => repeat (first | exact (Kd.R_reads' HO7.out).2.2 | (with_reducible refine Kd.C_alloc ?_ _) | (with_reducible refine Kd.C_drewN ?_ _) | (with_reducible refine Kd.C_drew ?_))); (case side2 => exact (Kd.R_reads' HO7.out).2.1); rintro e w16 ⟨v10, rfl, ho0, hb⟩; have n0_ := Aside0.mk (Kd.R_below (by (with_reducible repeat (first | apply Kd.R_alloc | apply Kd.R_drewN | apply Kd.R_drew)); exact HO7.out) hb); have n1_ := Aside0.mk (Kd.R_lower ho0 (below_size (by repeat (first | (with_reducible first | exact HB.out | apply below_alloc | apply pw_below_drewN | apply below_drew1) | exact HB.out)))); have n2_ := Aside0.mk (below_step (by repeat (first | (with_reducible first | exact HB.out | apply below_alloc | apply pw_below_drewN | apply below_drew1) | exact HB.out)) hb); clear HO7; clear HB; have HO7 := n0_; have HO11 := n1_; have HB := n2_; clear n0_ n1_ n2_; (try clear hb); (try clear hb2); (try clear hk); (try clear hi); (try clear ho0)) | (go_at_call 13; (with_reducible refine (q5z.calls kj3 _ _ l0 t12 t13 _ ?side1 ?side2 A10.out).mono ?_); (case side1 => repeat (first | exact (Kd.C_below HR0.out HB.out) | (with_reducible refine Kd.C_alloc ?_ _) | (with_reducible refine Kd.C_drewN ?_ _) | (with_reducible refine Kd.C_drew ?_))); (case side2 => exact HC0.out); rintro e w17 ⟨v14, rfl, ho0, hb⟩; have n0_ := Aside0.mk (Kd.R_below (by (with_reducible repeat (first | apply Kd.R_alloc | apply Kd.R_drewN | apply Kd.R_drew)); exact HO7.out) hb); have n1_ := Aside0.mk (Kd.R_elder' (by (with_reducible repeat (first | apply Kd.R_alloc | apply Kd.R_drewN | apply Kd.R_drew)); exact HO11.out) (Kd.R_base ho0) hb); have n2_ := Aside0.mk (Kd.R_lower (Kd.R_new' ho0 (Kd.R_lt (by (with_reducible repeat (first | apply Kd.R_alloc | apply Kd.R_drewN | apply Kd.R_drew)); exact HO11.out))) (below_size (by repeat (first | (with_reducible first | exact HB.out | apply below_alloc | apply pw_below_drewN | apply below_drew1) | exact HB.out)))); have n3_ := Aside0.mk (below_step (by repeat (first | (with_reducible first | exact HB.out | apply below_alloc | apply pw_below_drewN | apply below_drew1) | exact HB.out)) hb); clear HO7; clear HO11; clear HB; have HO7 := n0_; have HO11 := n1_; have HO15 := n2_; have HB := n3_; clear n0_ n1_ n2_ n3_; (try clear hb); (try clear hb2); (try clear hk); (try clear hi); (try clear ho0)))
      repeat (go_quiet (first | ((with_reducible refine gate_dst (N := 19) rfl ?_); (try (refine gate_guard (by rfl) ?_; dsimp only)); refine Kd.R_lit k24 _ 24 ?hg (N := 19) ?hd (xs := ([] : List (S24))) (inner := []) (ok := fun _ => True) (okp := fun _ => True) ?hr ?hp (fun _ hk => hk) trivial (Below.refl _ _) (Nat.le_refl _) (by simp) ?_; (case hd => rfl); (case hg => rfl); (case hr => first | (go_simp; done) | (go_simp; rfl)); (case hp => exact (Reps.none _ _)); intro v3 w12 ho13 hb hg_ hnew_; clear hg_ hnew_; (first | rw [← Ny2.out] at ho13 | (simp only [Int.reduceToNat] at ho13; rw [← Ny2.out] at ho13)); have n0_ := Aside0.mk (Kd.R_lower ho13 (below_size (by repeat (first | (with_reducible first | exact HB.out | apply below_alloc | apply pw_below_drewN | apply below_drew1) | exact HB.out)))); have n1_ := Aside0.mk (below_step (by repeat (first | (with_reducible first | exact HB.out | apply below_alloc | apply pw_below_drewN | apply below_drew1) | exact HB.out)) hb); clear HB; have HO4 := n0_; have HB := n1_; clear n0_ n1_; clear hb ho13) | ((with_reducible refine gate_builtin (b := .append) (xs := #[.tmp 19, .tmp 20]) rfl ?_); (try (refine gate_guard (by rfl) ?_; dsimp only)); at_builtin; refine Kd.R_append_rows k24 (w0 := w) w.heap.size rfl (.tmp 19) (.tmp 20) 30 24 (.agg #[(.int .u32 0), (.int .u32 0)]) 8 rfl Try.underlying30 info24 rfl (by decide) (by omega) v3 y2 l0 _ _ _ (fun _ => True) (fun _ => False) rfl rfl ?aO ?aR (fun _ _ h => h) (fun _ h => h.elim) ?aF ?aB ?aS ?aL ?_; (case aR => repeat (first | exact (Kd.C_below HR0.out HB.out) | (with_reducible refine Kd.C_alloc ?_ _) | (with_reducible refine Kd.C_drewN ?_ _) | (with_reducible refine Kd.C_drew ?_))); (case aB => exact (by repeat (first | (with_reducible first | exact HB.out | apply below_alloc | apply pw_below_drewN | apply below_drew1) | exact HB.out))); (case aF => exact (fun _ _ => trivial)); (case aO => exact (by (with_reducible repeat (first | apply Kd.R_alloc | apply Kd.R_drewN | apply Kd.R_drew)); exact HO4.out)); (case aS => exact (below_size (by repeat (first | (with_reducible first | exact HB.out | apply below_alloc | apply pw_below_drewN | apply below_drew1) | exact HB.out)))); (case aL => have := LMc8.out; omega); intro v6 w14 ho hb hg hat; rw [← Ny5.out] at ho; have n0_ := Aside0.mk (hb); have n1_ := Aside0.mk (ho); clear HB; clear HO4; have HB := n0_; have HO7 := n1_; clear n0_ n1_; clear ho hb hg hat; obtain ⟨Ao15, co15, eo15⟩ := Kd.R_slice HO7.out; subst eo15) | (go_at_call 12; (with_reducible refine (plane_Cells.calls kj3 _ _ y5 t8 t9 _ ?side1 ?side2 A9.out).mono ?_); (case side1 => repeat (first | exact (Kd.R_reads' HO7.out).2.2 | (with_reducible refine Kd.C_alloc ?_ _) | (with_reducible refine Kd.C_drewN ?_ _) | (with_reducible refine Kd.C_drew ?_))); (case side2 => exact (Kd.R_reads' HO7.out).2.1); rintro e w16 ⟨v10, rfl, ho0, hb⟩; have n0_ := Aside0.mk (Kd.R_below (by (with_reducible repeat (first | apply Kd.R_alloc | apply Kd.R_drewN | apply Kd.R_drew)); exact HO7.out) hb); have n1_ := Aside0.mk (Kd.R_lower ho0 (below_size (by repeat (first | (with_reducible first | exact HB.out | apply below_alloc | apply pw_below_drewN | apply below_drew1) | exact HB.out)))); have n2_ := Aside0.mk (below_step (by repeat (first | (with_reducible first | exact HB.out | apply below_alloc | apply pw_below_drewN | apply below_drew1) | exact HB.out)) hb); clear HO7; clear HB; have HO7 := n0_; have HO11 := n1_; have HB := n2_; clear n0_ n1_ n2_; (try clear hb); (try clear hb2); (try clear hk); (try clear hi); (try clear ho0)) | (go_at_call 13; (with_reducible refine (q5z.calls kj3 _ _ l0 t12 t13 _ ?side1 ?side2 A10.out).mono ?_); (case side1 => repeat (first | exact (Kd.C_below HR0.out HB.out) | (with_reducible refine Kd.C_alloc ?_ _) | (with_reducible refine Kd.C_drewN ?_ _) | (with_reducible refine Kd.C_drew ?_))); (case side2 => exact HC0.out); rintro e w17 ⟨v14, rfl, ho0, hb⟩; have n0_ := Aside0.mk (Kd.R_below (by (with_reducible repeat (first | apply Kd.R_alloc | apply Kd.R_drewN | apply Kd.R_drew)); exact HO7.out) hb); have n1_ := Aside0.mk (Kd.R_elder' (by (with_reducible repeat (first | apply Kd.R_alloc | apply Kd.R_drewN | apply Kd.R_drew)); exact HO11.out) (Kd.R_base ho0) hb); have n2_ := Aside0.mk (Kd.R_lower (Kd.R_new' ho0 (Kd.R_lt (by (with_reducible repeat (first | apply Kd.R_alloc | apply Kd.R_drewN | apply Kd.R_drew)); exact HO11.out))) (below_size (by repeat (first | (with_reducible first | exact HB.out | apply below_alloc | apply pw_below_drewN | apply below_drew1) | exact HB.out)))); have n3_ := Aside0.mk (below_step (by repeat (first | (with_reducible first | exact HB.out | apply below_alloc | apply pw_below_drewN | apply below_drew1) | exact HB.out)) hb); clear HO7; clear HO11; clear HB; have HO7 := n0_; have HO11 := n1_; have HO15 := n2_; have HB := n3_; clear n0_ n1_ n2_ n3_; (try clear hb); (try clear hb2); (try clear hk); (try clear hi); (try clear ho0))); go_upto_region 8 with (first | ((with_reducible refine gate_dst (N := 19) rfl ?_); (try (refine gate_guard (by rfl) ?_; dsimp only)); refine Kd.R_lit k24 _ 24 ?hg (N := 19) ?hd (xs := ([] : List (S24))) (inner := []) (ok := fun _ => True) (okp := fun _ => True) ?hr ?hp (fun _ hk => hk) trivial (Below.refl _ _) (Nat.le_refl _) (by simp) ?_; (case hd => rfl); (case hg => rfl); (case hr => first | (go_simp; done) | (go_simp; rfl)); (case hp => exact (Reps.none _ _)); intro v3 w12 ho13 hb hg_ hnew_; clear hg_ hnew_; (first | rw [← Ny2.out] at ho13 | (simp only [Int.reduceToNat] at ho13; rw [← Ny2.out] at ho13)); have n0_ := Aside0.mk (Kd.R_lower ho13 (below_size (by repeat (first | (with_reducible first | exact HB.out | apply below_alloc | apply pw_below_drewN | apply below_drew1) | exact HB.out)))); have n1_ := Aside0.mk (below_step (by repeat (first | (with_reducible first | exact HB.out | apply below_alloc | apply pw_below_drewN | apply below_drew1) | exact HB.out)) hb); clear HB; have HO4 := n0_; have HB := n1_; clear n0_ n1_; clear hb ho13) | ((with_reducible refine gate_builtin (b := .append) (xs := #[.tmp 19, .tmp 20]) rfl ?_); (try (refine gate_guard (by rfl) ?_; dsimp only)); at_builtin; refine Kd.R_append_rows k24 (w0 := w) w.heap.size rfl (.tmp 19) (.tmp 20) 30 24 (.agg #[(.int .u32 0), (.int .u32 0)]) 8 rfl Try.underlying30 info24 rfl (by decide) (by omega) v3 y2 l0 _ _ _ (fun _ => True) (fun _ => False) rfl rfl ?aO ?aR (fun _ _ h => h) (fun _ h => h.elim) ?aF ?aB ?aS ?aL ?_; (case aR => repeat (first | exact (Kd.C_below HR0.out HB.out) | (with_reducible refine Kd.C_alloc ?_ _) | (with_reducible refine Kd.C_drewN ?_ _) | (with_reducible refine Kd.C_drew ?_))); (case aB => exact (by repeat (first | (with_reducible first | exact HB.out | apply below_alloc | apply pw_below_drewN | apply below_drew1) | exact HB.out))); (case aF => exact (fun _ _ => trivial)); (case aO => exact (by (with_reducible repeat (first | apply Kd.R_alloc | apply Kd.R_drewN | apply Kd.R_drew)); exact HO4.out)); (case aS => exact (below_size (by repeat (first | (with_reducible first | exact HB.out | apply below_alloc | apply pw_below_drewN | apply below_drew1) | exact HB.out)))); (case aL => have := LMc8.out; omega); intro v6 w14 ho hb hg hat; rw [← Ny5.out] at ho; have n0_ := Aside0.mk (hb); have n1_ := Aside0.mk (ho); clear HB; clear HO4; have HB := n0_; have HO7 := n1_; clear n0_ n1_; clear ho hb hg hat; obtain ⟨Ao15, co15, eo15⟩ := Kd.R_slice HO7.out; subst eo15) | (go_at_call 12; (with_reducible refine (plane_Cells.calls kj3 _ _ y5 t8 t9 _ ?side1 ?side2 A9.out).mono ?_); (case side1 => repeat (first | exact (Kd.R_reads' HO7.out).2.2 | (with_reducible refine Kd.C_alloc ?_ _) | (with_reducible refine Kd.C_drewN ?_ _) | (with_reducible refine Kd.C_drew ?_))); (case side2 => exact (Kd.R_reads' HO7.out).2.1); rintro e w16 ⟨v10, rfl, ho0, hb⟩; have n0_ := Aside0.mk (Kd.R_below (by (with_reducible repeat (first | apply Kd.R_alloc | apply Kd.R_drewN | apply Kd.R_drew)); exact HO7.out) hb); have n1_ := Aside0.mk (Kd.R_lower ho0 (below_size (by repeat (first | (with_reducible first | exact HB.out | apply below_alloc | apply pw_below_drewN | apply below_drew1) | exact HB.out)))); have n2_ := Aside0.mk (below_step (by repeat (first | (with_reducible first | exact HB.out | apply below_alloc | apply pw_below_drewN | apply below_drew1) | exact HB.out)) hb); clear HO7; clear HB; have HO7 := n0_; have HO11 := n1_; have HB := n2_; clear n0_ n1_ n2_; (try clear hb); (try clear hb2); (try clear hk); (try clear hi); (try clear ho0)) | (go_at_call 13; (with_reducible refine (q5z.calls kj3 _ _ l0 t12 t13 _ ?side1 ?side2 A10.out).mono ?_); (case side1 => repeat (first | exact (Kd.C_below HR0.out HB.out) | (with_reducible refine Kd.C_alloc ?_ _) | (with_reducible refine Kd.C_drewN ?_ _) | (with_reducible refine Kd.C_drew ?_))); (case side2 => exact HC0.out); rintro e w17 ⟨v14, rfl, ho0, hb⟩; have n0_ := Aside0.mk (Kd.R_below (by (with_reducible repeat (first | apply Kd.R_alloc | apply Kd.R_drewN | apply Kd.R_drew)); exact HO7.out) hb); have n1_ := Aside0.mk (Kd.R_elder' (by (with_reducible repeat (first | apply Kd.R_alloc | apply Kd.R_drewN | apply Kd.R_drew)); exact HO11.out) (Kd.R_base ho0) hb); have n2_ := Aside0.mk (Kd.R_lower (Kd.R_new' ho0 (Kd.R_lt (by (with_reducible repeat (first | apply Kd.R_alloc | apply Kd.R_drewN | apply Kd.R_drew)); exact HO11.out))) (below_size (by repeat (first | (with_reducible first | exact HB.out | apply below_alloc | apply pw_below_drewN | apply below_drew1) | exact HB.out)))); have n3_ := Aside0.mk (below_step (by repeat (first | (with_reducible first | exact HB.out | apply below_alloc | apply pw_below_drewN | apply below_drew1) | exact HB.out)) hb); clear HO7; clear HO11; clear HB; have HO7 := n0_; have HO11 := n1_; have HO15 := n2_; have HB := n3_; clear n0_ n1_ n2_ n3_; (try clear hb); (try clear hb2); (try clear hk); (try clear hi); (try clear ho0))))
      (try simp only [Act.put, List.setIfInBounds_toArray, List.set_cons_zero, List.set_cons_succ])
      go_cut [40] (fun v40 wc => ∃ (kq : Nat) (x40_10 : Bool), v40 = .bool x40_10 ∧ Aside0 (q10z.j1 kq l0 y5 x40_10 = some r) ∧ Aside0 (kq ≤ kj3) ∧ Aside0 (Kd.R k24 24 wc w.heap.size (fun _ => True) (.slice Ao15 y5.length co15) y5) ∧ Aside0 (Below w.heap.size w wc))
      case first =>
       have H := HC11.out
       clear HC11
       by_cases c18 : t9 = t13
       ·
        rw [if_pos c18] at H
        have c18b0 : (t9 == t13) = true := beq_iff_eq.mpr c18
        have c18b1 : (t9 != t13) = false := bne_eq_false_iff_eq.mpr c18
        clear c18
        (first | rw [c18b0] | (simp only [i64_w, i32_w, IntKind.wrap_u32]; rw [c18b0]) | skip)
        replace H := Option.bind_eq_some_iff.mp H
        obtain ⟨t16, A190, H⟩ := H
        replace H : (q10z.j1 kj3 l0 y5 (!t16)) = some r := H
        have A19 := Aside0.mk A190
        clear A190
        have H' := Aside0.mk H
        clear H
        obtain ⟨Ao20, co20, eo20⟩ := Kd.R_slice HO11.out
        subst eo20
        obtain ⟨Ao21, co21, eo21⟩ := Kd.R_slice HO15.out
        subst eo21
        go_wp2_with (first | (go_at_call 14; (with_reducible refine (q6z.calls kj3 _ _ t8 _ _ t12 t16 _ ?side1 ?side2 ?side3 ?side4 A19.out).mono ?_); (case side1 => repeat (first | exact (Kd.R_reads' HO11.out).2.2 | (with_reducible refine Kd.C_alloc ?_ _) | (with_reducible refine Kd.C_drewN ?_ _) | (with_reducible refine Kd.C_drew ?_))); (case side2 => exact (Kd.R_reads' HO11.out).2.1); (case side3 => repeat (first | exact (Kd.R_reads' HO15.out).2.2 | (with_reducible refine Kd.C_alloc ?_ _) | (with_reducible refine Kd.C_drewN ?_ _) | (with_reducible refine Kd.C_drew ?_))); (case side4 => exact (Kd.R_reads' HO15.out).2.1); rintro e w' ⟨rfl, ⟨nd, rfl⟩⟩; (try first | exact ⟨rfl, _, World.drewN_drewN _ _ _⟩ | exact ⟨rfl, _, Eq.trans (World.drewN_drewN _ _ _) (congrArg (World.drewN _) (Nat.add_assoc _ _ _))⟩)))
        repeat (go_quiet (first | (go_at_call 14; (with_reducible refine (q6z.calls kj3 _ _ t8 _ _ t12 t16 _ ?side1 ?side2 ?side3 ?side4 A19.out).mono ?_); (case side1 => repeat (first | exact (Kd.R_reads' HO11.out).2.2 | (with_reducible refine Kd.C_alloc ?_ _) | (with_reducible refine Kd.C_drewN ?_ _) | (with_reducible refine Kd.C_drew ?_))); (case side2 => exact (Kd.R_reads' HO11.out).2.1); (case side3 => repeat (first | exact (Kd.R_reads' HO15.out).2.2 | (with_reducible refine Kd.C_alloc ?_ _) | (with_reducible refine Kd.C_drewN ?_ _) | (with_reducible refine Kd.C_drew ?_))); (case side4 => exact (Kd.R_reads' HO15.out).2.1); rintro e w' ⟨rfl, ⟨nd, rfl⟩⟩; (try first | exact ⟨rfl, _, World.drewN_drewN _ _ _⟩ | exact ⟨rfl, _, Eq.trans (World.drewN_drewN _ _ _) (congrArg (World.drewN _) (Nat.add_assoc _ _ _))⟩))); try go_wp2_with (first | (go_at_call 14; (with_reducible refine (q6z.calls kj3 _ _ t8 _ _ t12 t16 _ ?side1 ?side2 ?side3 ?side4 A19.out).mono ?_); (case side1 => repeat (first | exact (Kd.R_reads' HO11.out).2.2 | (with_reducible refine Kd.C_alloc ?_ _) | (with_reducible refine Kd.C_drewN ?_ _) | (with_reducible refine Kd.C_drew ?_))); (case side2 => exact (Kd.R_reads' HO11.out).2.1); (case side3 => repeat (first | exact (Kd.R_reads' HO15.out).2.2 | (with_reducible refine Kd.C_alloc ?_ _) | (with_reducible refine Kd.C_drewN ?_ _) | (with_reducible refine Kd.C_drew ?_))); (case side4 => exact (Kd.R_reads' HO15.out).2.1); rintro e w' ⟨rfl, ⟨nd, rfl⟩⟩; (try first | exact ⟨rfl, _, World.drewN_drewN _ _ _⟩ | exact ⟨rfl, _, Eq.trans (World.drewN_drewN _ _ _) (congrArg (World.drewN _) (Nat.add_assoc _ _ _))⟩))))
        go_meet
        case rel => exact ⟨_, (!t16), (by first | rfl | (simp; done) | (simp [*]; done)), H', ⟨by have := HJ3.out; first | omega | exact Nat.le_refl _⟩, ⟨by (with_reducible repeat (first | apply Kd.R_alloc | apply Kd.R_drewN | apply Kd.R_drew)); exact HO7.out⟩, ⟨by repeat (first | (with_reducible first | exact HB.out | apply below_alloc | apply pw_below_drewN | apply below_drew1) | exact HB.out)⟩⟩
       ·
        rw [if_neg c18] at H
        have c18b0 : (t9 == t13) = false := beq_eq_false_iff_ne.mpr c18
        have c18b1 : (t9 != t13) = true := bne_iff_ne.mpr c18
        (first | rw [c18b0] | (simp only [i64_w, i32_w, IntKind.wrap_u32]; rw [c18b0]) | skip)
        have H' := Aside0.mk H
        clear H
        go_wp2
        repeat (go_quiet (fail); try go_wp2)
        go_meet
        case rel => exact ⟨_, (true), (by first | rfl | (simp; done) | (simp [*]; done)), H', ⟨by have := HJ3.out; first | omega | exact Nat.le_refl _⟩, ⟨by (with_reducible repeat (first | apply Kd.R_alloc | apply Kd.R_drewN | apply Kd.R_drew)); exact HO7.out⟩, ⟨by repeat (first | (with_reducible first | exact HB.out | apply below_alloc | apply pw_below_drewN | apply below_drew1) | exact HB.out)⟩⟩
      case rest =>
       clear HC11
       try clear c1
       try clear p2
       try clear c3
       try clear c4
       try clear c6
       try clear c6b0
       try clear c6b1
       try clear c7
       try clear c8
       try clear c18
       try clear c18b0
       try clear c18b1
       try clear p2
       obtain ⟨kq, x40_10, rfl, HA, HJ10, HO_3, HB⟩ := hcut
       cases kq with
       | zero => exact absurd HA.out (by simp [q10z.j1])
       | succ kj10 =>
        have H := HA.out
        clear HA
        simp only [q10z.j1] at H
        by_cases c22 : x40_10 = true
        ·
         subst c22
         have H1 : (some false) = some r := by rw [if_pos rfl] at H; exact H
         clear H
         have H := H1
         clear H1
         obtain rfl := Option.some.inj H
         go_wp2
         repeat (go_quiet (fail); try go_wp2)
         go_ret
         exact ⟨by first | rfl | (simp [errW_none, errW_some] <;> rfl) | (simp [*, errW_none, errW_some] <;> rfl), by repeat (first | (with_reducible first | exact HB.out | apply below_alloc | apply pw_below_drewN | apply below_drew1) | exact HB.out)⟩
        ·
         replace c22 := Bool.eq_false_iff.mpr c22
         subst c22
         have H1 : (q10z.l0 kj10 l0 y5 (l0.length : Int) 0) = some r := by rw [if_neg (show ¬ (false = true) by decide)] at H; exact H
         clear H
         have H := H1
         clear H1
         have H' := Aside0.mk H
         clear H
         go_wp2
         repeat (go_quiet (fail); try go_wp2)
         go_loopg [43] kj10 (fun kq v43 w' => ∃ (x43_3 : Int), v43 = .int .i64 x43_3 ∧ Aside0 (q10z.l0 kq l0 y5 (l0.length : Int) x43_3 = some r) ∧ Aside0 (kq ≤ kj10) ∧ Aside0 (Kd.R k24 24 w' w.heap.size (fun _ => True) (.slice Ao15 y5.length co15) y5) ∧ Aside0 (Below w.heap.size w w'))
         case atStart => exact ⟨(0), (by first | rfl | (simp; done) | (simp [*]; done)), H', ⟨Nat.le_refl _⟩, ⟨by (with_reducible repeat (first | apply Kd.R_alloc | apply Kd.R_drewN | apply Kd.R_drew)); exact HO_3.out⟩, ⟨by repeat (first | (with_reducible first | exact HB.out | apply below_alloc | apply pw_below_drewN | apply below_drew1) | exact HB.out)⟩⟩
         case round =>
          clear H'
          try clear c1
          try clear c2
          try clear p2
          try clear c3
          try clear c4
          try clear c6
          try clear c6b0
          try clear c6b1
          try clear c7
          try clear c8
          try clear c18
          try clear c18b0
          try clear c18b1
          try clear c22
          try clear p2
          obtain ⟨x43_3, rfl, HA, HK3, HO_3, HB⟩ := hrel
          cases gk with
          | zero => exact absurd HA.out (by simp [q10z.l0])
          | succ k3 =>
           have H := HA.out
           clear HA
           simp only [q10z.l0] at H
           by_cases c23 : x43_3 < (l0.length : Int)
           ·
            rw [if_pos c23] at H
            have c23b0 : decide (x43_3 < (l0.length : Int)) = true := decide_eq_true c23
            clear c23
            by_cases c24 : 0 ≤ x43_3
            ·
             rw [if_pos c24] at H
             have c24b0 : decide (0 ≤ x43_3) = true := decide_eq_true c24
             clear c24
             by_cases c25 : x43_3 < (y5.length : Int)
             ·
              rw [if_pos c25] at H
              have c25b0 : decide (x43_3 < (y5.length : Int)) = true := decide_eq_true c25
              clear c25
              by_cases c26 : x43_3 < (l0.length : Int)
              ·
               rw [if_pos c26] at H
               have c26b0 : decide (x43_3 < (l0.length : Int)) = true := decide_eq_true c26
               clear c26
               by_cases c27 : (!(((rd_T24 y5 x43_3).f0) == ((rd_T24 l0 x43_3).f0)) || (!(((rd_T24 y5 x43_3).f1) == ((rd_T24 l0 x43_3).f1)))) = true
               ·
                rw [if_pos c27] at H
                have c27b0 : (!(((rd_T24 y5 x43_3).f0) == ((rd_T24 l0 x43_3).f0)) || (!(((rd_T24 y5 x43_3).f1) == ((rd_T24 l0 x43_3).f1)))) = true := c27
                clear c27
                obtain rfl := Option.some.inj H
                have p17 : 0 ≤ (x43_3 : Int) := of_decide_eq_true (by first | (with_reducible assumption) | assumption)
                have q17 : x43_3 < (y5.length : Int) := of_decide_eq_true (by first | (with_reducible assumption) | assumption)
                obtain ⟨ad17, e17, hx17_0, hx17_1⟩ := at_T24 (Kd.R_reads' HO_3.out).2.2 x43_3 p17 q17
                cases e17
                replace p17 := eq_true p17
                replace q17 := eq_true q17
                have p18 : 0 ≤ (x43_3 : Int) := of_decide_eq_true (by first | (with_reducible assumption) | assumption)
                have q18 : x43_3 < (l0.length : Int) := of_decide_eq_true (by first | (with_reducible assumption) | assumption)
                obtain ⟨ad18, e18, hx18_0, hx18_1⟩ := at_T24 HR0.out x43_3 p18 q18
                cases e18
                replace hx18_0 := (HB.out.cell (World.block_lt_of_cell? w _ hx18_0)).trans hx18_0
                replace hx18_1 := (HB.out.cell (World.block_lt_of_cell? w _ hx18_1)).trans hx18_1
                replace p18 := eq_true p18
                replace q18 := eq_true q18
                go_wp2
                repeat (go_quiet (fail); try go_wp2)
                go_ret
                exact ⟨by first | rfl | (simp [errW_none, errW_some] <;> rfl) | (simp [*, errW_none, errW_some] <;> rfl), by repeat (first | (with_reducible first | exact HB.out | apply below_alloc | apply pw_below_drewN | apply below_drew1) | exact HB.out)⟩
               ·
                rw [if_neg c27] at H
                have c27b0 : (!(((rd_T24 y5 x43_3).f0) == ((rd_T24 l0 x43_3).f0)) || (!(((rd_T24 y5 x43_3).f1) == ((rd_T24 l0 x43_3).f1)))) = false := by simpa using c27
                clear c27
                have H' := Aside0.mk H
                clear H
                have p17 : 0 ≤ (x43_3 : Int) := of_decide_eq_true (by first | (with_reducible assumption) | assumption)
                have q17 : x43_3 < (y5.length : Int) := of_decide_eq_true (by first | (with_reducible assumption) | assumption)
                obtain ⟨ad17, e17, hx17_0, hx17_1⟩ := at_T24 (Kd.R_reads' HO_3.out).2.2 x43_3 p17 q17
                cases e17
                replace p17 := eq_true p17
                replace q17 := eq_true q17
                have p18 : 0 ≤ (x43_3 : Int) := of_decide_eq_true (by first | (with_reducible assumption) | assumption)
                have q18 : x43_3 < (l0.length : Int) := of_decide_eq_true (by first | (with_reducible assumption) | assumption)
                obtain ⟨ad18, e18, hx18_0, hx18_1⟩ := at_T24 HR0.out x43_3 p18 q18
                cases e18
                replace hx18_0 := (HB.out.cell (World.block_lt_of_cell? w _ hx18_0)).trans hx18_0
                replace hx18_1 := (HB.out.cell (World.block_lt_of_cell? w _ hx18_1)).trans hx18_1
                replace p18 := eq_true p18
                replace q18 := eq_true q18
                go_wp2
                repeat (go_quiet (fail); try go_wp2)
                go_roundg k3
                case measure => have := HJ3.out; have := HJ10.out; have := HK3.out; omega
                case rel => exact ⟨(wrap64 (x43_3 + 1)), (by first | rfl | (simp; done) | (simp [*]; done)), H', ⟨by have := HJ3.out; have := HJ10.out; have := HK3.out; omega⟩, ⟨by (with_reducible repeat (first | apply Kd.R_alloc | apply Kd.R_drewN | apply Kd.R_drew)); exact HO_3.out⟩, ⟨by repeat (first | (with_reducible first | exact HB.out | apply below_alloc | apply pw_below_drewN | apply below_drew1) | exact HB.out)⟩⟩
              ·
               rw [if_neg c26] at H
               exact absurd H (by simp)
             ·
              rw [if_neg c25] at H
              exact absurd H (by simp)
            ·
             rw [if_neg c24] at H
             exact absurd H (by simp)
           ·
            rw [if_neg c23] at H
            have c23b0 : decide (x43_3 < (l0.length : Int)) = false := decide_eq_false c23
            clear c23
            obtain rfl := Option.some.inj H
            go_wp2
            repeat (go_quiet (fail); try go_wp2)
            go_ret
            exact ⟨by first | rfl | (simp [errW_none, errW_some] <;> rfl) | (simp [*, errW_none, errW_some] <;> rfl), by repeat (first | (with_reducible first | exact HB.out | apply below_alloc | apply pw_below_drewN | apply below_drew1) | exact HB.out)⟩
     ·
      rw [if_neg c8] at H
      exact absurd H (by simp)
 ·
  replace c3 := Bool.eq_false_iff.mpr c3
  subst c3
  have H1 : (some false) = some r := by rw [if_neg (show ¬ (false = true) by decide)] at H; exact H
  clear H
  have H := H1
  clear H1
  obtain rfl := Option.some.inj H
  go_enter Try.func4, Try.ntmps4
  go_wp2_with (first | (go_at_call 8; (with_reducible refine (q9z.calls k  false _ A2.out).mono ?_); rintro e w28 ⟨rfl, hb⟩; have n0_ := Aside0.mk (below_step (by repeat (first | (with_reducible first | exact HB.out | apply below_alloc | apply pw_below_drewN | apply below_drew1) | exact HB.out)) hb); clear HB; have HB := n0_; clear n0_; (try clear hb); (try clear hb2); (try clear hk); (try clear hi)))
  repeat (go_quiet (first | (go_at_call 8; (with_reducible refine (q9z.calls k  false _ A2.out).mono ?_); rintro e w28 ⟨rfl, hb⟩; have n0_ := Aside0.mk (below_step (by repeat (first | (with_reducible first | exact HB.out | apply below_alloc | apply pw_below_drewN | apply below_drew1) | exact HB.out)) hb); clear HB; have HB := n0_; clear n0_; (try clear hb); (try clear hb2); (try clear hk); (try clear hi))); try go_wp2_with (first | (go_at_call 8; (with_reducible refine (q9z.calls k  false _ A2.out).mono ?_); rintro e w28 ⟨rfl, hb⟩; have n0_ := Aside0.mk (below_step (by repeat (first | (with_reducible first | exact HB.out | apply below_alloc | apply pw_below_drewN | apply below_drew1) | exact HB.out)) hb); clear HB; have HB := n0_; clear n0_; (try clear hb); (try clear hb2); (try clear hk); (try clear hi))))
  go_ret
  exact ⟨by first | rfl | (simp [errW_none, errW_some] <;> rfl) | (simp [*, errW_none, errW_some] <;> rfl), by repeat (first | (with_reducible first | exact HB.out | apply below_alloc | apply pw_below_drewN | apply below_drew1) | exact HB.out)⟩

end Go.Proofs.Ytdkbfcogmlghfaa.P

namespace Go.Proofs.Ytdkbfcogmlghfaa.P
open Go.RowKit Go.Proofs.YtdkbfcogmlghfaaW.PrintWords Go.Proofs.YtdkbfcogmlghfaaW.PrintLast Go.Proofs.YtdkbfcogmlghfaaW.PrintMore Go.ChangeShapes Go.WideShapes
set_option linter.unusedVariables false
section
variable {H : Type} {enc : TypeId × Value → H} {P : Program} {w : World} {base : Nat} {spare : Nat → Bool} {held : Bool}
/-- Whatever reads as data of type T is a value of kind d. -/
def Opens (enc : TypeId × Value → H) (P : Program) (w : World) (base : Nat) (spare : Nat → Bool) (held : Bool) {α : Type} (d : Kd α) (T : TypeId) (good : α → Prop) : Prop :=
  ∀ fuel cs y, DataW.trod enc P w base spare held fuel T cs = some y → ∃ x, d.K w x cs ∧ good x
theorem opens_int {k : IntKind} {T : TypeId} (ht : P.underlying T = some (.int k)) : Opens enc P w base spare held (Kd.int k) T (fun n => (Lit.int k n).wf = true) := by
  intro fuel cs y h
  obtain ⟨n, rfl, _, hw⟩ := DataW.trod_int ht h
  exact ⟨n, rfl, hw⟩
theorem opens_string {T : TypeId} (ht : P.underlying T = some .string) : Opens enc P w base spare held Kd.string T (fun s => s.size ≤ maxLen) := by
  intro fuel cs y h
  obtain ⟨s, rfl, _, hw⟩ := DataW.trod_string ht h
  exact ⟨s, rfl, hw⟩
theorem opens_bool {T : TypeId} (ht : P.underlying T = some .bool) : Opens enc P w base spare held Kd.bool T (fun _ => True) := by
  intro fuel cs y h
  cases fuel with
  | zero => simp [DataW.trod] at h
  | succ n =>
    unfold DataW.trod at h
    rw [ht] at h
    split at h
    all_goals first | exact ⟨_, rfl, trivial⟩ | (exfalso; simp_all; done)
theorem pick_list {α : Type} {Q : Nat → α → Prop} : ∀ n : Nat, (∀ i, i < n → ∃ x, Q i x) → ∃ xs : List α, xs.length = n ∧ ∀ i x, xs[i]? = some x → Q i x
  | 0, _ => ⟨[], rfl, fun i x h => by simp at h⟩
  | n + 1, h => by
    obtain ⟨xs, hl, hx⟩ := pick_list n (fun i hi => h i (by omega))
    obtain ⟨x, hxn⟩ := h n (by omega)
    refine ⟨xs ++ [x], by simp [hl], fun i z hz => ?_⟩
    by_cases hi : i < n
    · rw [List.getElem?_append_left (by omega)] at hz
      exact hx i z hz
    · rw [List.getElem?_append_right (by omega)] at hz
      have hi0 : i - xs.length = 0 := by
        have := (List.getElem?_eq_some_iff.1 hz).1
        simp at this
        omega
      rw [hi0] at hz
      have : x = z := by simpa using hz
      subst this
      have : i = n := by omega
      subst this
      exact hxn
theorem opens_slice {α : Type} {d : Kd α} {T e : TypeId} {good : α → Prop} (ht : P.underlying T = some (.slice e)) (hce : P.cellsOf e = d.sz) (ho : Opens enc P w base spare held d e good) :
    Opens enc P w base spare held (Kd.slice e d) T (fun xs => xs.length ≤ 9223372036854775807 ∧ ∀ x ∈ xs, good x) := by
  intro fuel cs y h
  rcases Go.Deep.open_slice ht h with ⟨rfl, _⟩ | ⟨a, len, cap, m, n, D, Pl, rfl, hb, hl, hm, hmm, _, hx⟩
  · exact ⟨[], ⟨none, 0, rfl, Nat.le_refl _, ⟨rfl, by simp, fun h => absurd h (by simp)⟩⟩, by simp, fun x hx => (List.not_mem_nil hx).elim⟩
  · have hlm : len ≤ m := by rw [hmm]; split <;> omega
    have each : ∀ i, i < len → ∃ q : α × List Value, w.cells? base (a.add (i * d.sz)) d.sz = some q.2 ∧ d.K w q.1 q.2 ∧ good q.1 := fun i hi => by
      obtain ⟨cs', h1, h2⟩ := hx i (by omega)
      obtain ⟨x, hk, hg⟩ := ho _ _ _ h2
      rw [hce] at h1
      exact ⟨(x, cs'), h1, hk, hg⟩
    obtain ⟨qs, hql, hq⟩ := pick_list len each
    refine ⟨qs.map (·.1), ⟨some a, cap, by simp [hql], by simp [hql]; omega, ?_⟩, by simp only [List.length_map, hql]; unfold maxLen at hm; omega, ?_⟩
    · refine ⟨rfl, by simp only [List.length_map, hql]; unfold maxLen at hm; omega, fun _ => ⟨a, rfl, fun j p hp => ?_⟩⟩
      rw [List.getElem?_map] at hp
      obtain ⟨q, hqj, rfl⟩ := Option.map_eq_some_iff.1 hp
      obtain ⟨h1, h2, _⟩ := hq j q hqj
      obtain ⟨_, h4, h5⟩ := World.cells?_some h1
      refine ⟨q.2, h4, h2, fun i u hu => ?_⟩
      have hi : i < d.sz := by have := (List.getElem?_eq_some_iff.1 hu).1; omega
      have h6 := h5 i hi
      rw [add_add] at h6
      rw [h6, hu]
    · intro x hx'
      obtain ⟨q, hq', rfl⟩ := List.mem_map.1 hx'
      obtain ⟨i, hi⟩ := List.getElem?_of_mem hq'
      exact (hq i q hi).2.2
end
end Go.Proofs.Ytdkbfcogmlghfaa.P

namespace Go.Proofs.Ytdkbfcogmlghfaa.P
open Go.RowKit Go.Proofs.YtdkbfcogmlghfaaW.PrintWords Go.Proofs.YtdkbfcogmlghfaaW.PrintMore Go.ChangeShapes Go.WideShapes
set_option linter.unusedVariables false
def good24 (x : S24) : Prop := (Lit.int .u32 x.f0).wf = true ∧ (Lit.int .u32 x.f1).wf = true
theorem opens_T24 {H : Type} {enc : TypeId × Value → H} {w : World} {base : Nat} {spare : Nat → Bool} {held : Bool} : Opens enc Try.prog w base spare held k24 24 good24 := by
  intro fuel cs y h
  obtain ⟨xs, n, _, _, hlen, hxl, hf⟩ := DataW.trod_struct Try.underlying24 h
  have hcs : cs.length = 2 := hlen.trans (by kernel_rfl)
  have h0 := hf 0 _ rfl
  obtain ⟨y0, e0⟩ : ∃ y_, xs[0]? = some y_ := ⟨_, List.getElem?_eq_getElem (by rw [hxl]; decide)⟩
  rw [e0] at h0
  have q0 : DataW.trod enc Try.prog w base spare held n 22 ((cs.drop 0).take 1) = some y0 := (congrArg (fun z => DataW.trod enc Try.prog w base spare held n 22 ((cs.drop 0).take z)) (show 1 = Try.prog.cellsOf 22 from by kernel_rfl)).trans h0
  obtain ⟨x0, k0_, g0⟩ := (opens_int Try.underlying22) _ _ _ q0
  have h1 := hf 1 _ rfl
  obtain ⟨y1, e1⟩ : ∃ y_, xs[1]? = some y_ := ⟨_, List.getElem?_eq_getElem (by rw [hxl]; decide)⟩
  rw [e1] at h1
  have q1 : DataW.trod enc Try.prog w base spare held n 22 ((cs.drop 1).take 1) = some y1 := (congrArg (fun z => DataW.trod enc Try.prog w base spare held n 22 ((cs.drop 1).take z)) (show 1 = Try.prog.cellsOf 22 from by kernel_rfl)).trans h1
  obtain ⟨x1, k1_, g1⟩ := (opens_int Try.underlying22) _ _ _ q1
  have s0 : cs.drop 0 = (cs.drop 0).take 1 ++ cs.drop 1 := by have e_ := (List.take_append_drop 1 (cs.drop 0)).symm; rwa [List.drop_drop] at e_
  have s1 : cs.drop 1 = (cs.drop 1).take 1 := (List.take_of_length_le (by rw [List.length_drop, hcs]; decide)).symm
  exact ⟨⟨x0, x1⟩, ⟨(cs.drop 0).take 1, cs.drop 1, (show cs = _ from s0), k0_, (by rw [s1]; exact k1_)⟩, g0, g1⟩
end Go.Proofs.Ytdkbfcogmlghfaa.P

namespace Go.Proofs.Ytdkbfcogmlghfaa.P
open Go.RowKit Go.Proofs.YtdkbfcogmlghfaaW.PrintWords Go.Proofs.YtdkbfcogmlghfaaW.PrintLast Go.Proofs.YtdkbfcogmlghfaaW.PrintMore
set_option linter.unusedVariables false

/-- What the closure of plane.Any says of a box. -/
def inS (n : Int) (s : S24) : Bool := inB s.f0.toNat s.f1.toNat n.toNat
def boxOk (s : S24) : Bool := u32B s.f0 && u32B s.f1
def plane_Any.f (l0 : List S24) (a1 : Int) : Option Bool := if l0.length ≤ 9223372036854775807 then (if (l0.all boxOk && u32B a1) = true then some (l0.any (inS a1)) else none) else none
theorem in_closure (n : Int) (B : Nat) (x : S24) (W : World) (hB : B < W.heap.size) (hc : W.cell? ⟨B, 0, none⟩ = some (.int .u32 n)) (hf : plane_In.f x.f0 x.f1 n = some (inS n x)) :
    Calls Try.prog 29 #[.agg #[.int .u32 x.f0, .int .u32 x.f1], .pointer (some ⟨B, 0, none⟩)] W fun e w' => e = .returned (.bool (inS n x)) ∧ Below W.heap.size W w' := by
  have hu24 := Try.underlying24
  have hne : B ≠ W.heap.size := by omega
  have HI := Go.Lib.hid (fun w => plane_In.calls x.f0 x.f1 n _ w hf)
  clear hf
  go_enter Try.func29, Try.ntmps29
  go_wp2_with (first | (go_at_call 11; refine (HI.out _).mono ?_; rintro e w' ⟨rfl, hb⟩))
  go_ret
  exact ⟨rfl, ((Below.refl _ _).alloc (Nat.le_refl _) _).trans (hb.mono (by simp))⟩

/-- What IndexFunc's loop has come to. -/
def NoneTill (p : S24 → Bool) (l : List S24) (k : Nat) : Prop := ∀ j, j < k → p (l.getD j z24) = false
theorem any_of_none (p : S24 → Bool) (l : List S24) (h : NoneTill p l l.length) : l.any p = false := by
  rw [List.any_eq_false]
  intro x hx
  obtain ⟨j, hj, rfl⟩ := List.getElem_of_mem hx
  have := h j hj
  rw [List.getD_eq_getElem?_getD, List.getElem?_eq_getElem hj] at this
  simpa using this
theorem any_of_some (p : S24 → Bool) (l : List S24) (k : Nat) (hk : k < l.length) (h : p (l.getD k z24) = true) : l.any p = true := by
  rw [List.any_eq_true]
  refine ⟨l[k], List.getElem_mem hk, ?_⟩
  rw [List.getD_eq_getElem?_getD, List.getElem?_eq_getElem hk] at h
  simpa using h
def IdxPost (p : S24 → Bool) (l : List S24) (w : World) (e : Ending) (w' : World) : Prop := ∃ i : Int, e = .returned (.int .i64 i) ∧ decide (i ≥ 0) = l.any p ∧ Below w.heap.size w w'

set_option maxHeartbeats 1000000 in
theorem in_index (n : Int) (B : Nat) (w : World) (hB : B < w.heap.size) (hcB : w.cell? ⟨B, 0, none⟩ = some (.int .u32 n)) (A0 : Option Addr) (c0 : Nat) (l0 : List (S24)) (hr0 : Kd.C k24 w A0 l0.length l0) (hl : l0.length ≤ 9223372036854775807) (hall : ∀ x ∈ l0, plane_In.f x.f0 x.f1 n = some (inS n x)) :
    Calls Try.prog 33 #[.slice A0 l0.length c0, .func (.func 29) #[] #[.pointer (some ⟨B, 0, none⟩)]] w (IdxPost (inS n) l0 w) := by
  have hu24 := Try.underlying24
  have HC := Go.Lib.hid hcB
  clear hcB
  have HR := Go.Lib.hid hr0
  have HALL := Go.Lib.hid hall
  clear hr0 hall
  go_enter Try.func33, Try.ntmps33
  go_wp2
  go_loopw [8] (fun i wr => ∃ k : Nat, k ≤ l0.length ∧ i = .int .i64 k ∧ NoneTill (inS n) l0 k ∧ Below w.heap.size w wr) (fun i _ => l0.length - (intOf i).toNat)
  case atStart => exact ⟨0, Nat.zero_le _, rfl, fun j hj => absurd hj (Nat.not_lt_zero j), Below.refl _ _⟩
  case round =>
    obtain ⟨k, hk, rfl, hn, hb⟩ := hrel
    have HN := Go.Lib.hid hn
    clear hn
    have HBb := Go.Lib.hid hb
    clear hb
    by_cases hlt : k < l0.length
    · obtain ⟨ad, e0, h0, h1⟩ := at_T24 (Kd.C_below HR.out HBb.out) (k : Int) (by omega) (by omega)
      rw [Int.toNat_natCast] at h0 h1
      have hmem : rd_T24 l0 (k : Int) ∈ l0 := by
        unfold rd_T24
        rw [Int.toNat_natCast, List.getD_eq_getElem?_getD, List.getElem?_eq_getElem hlt]
        exact List.getElem_mem hlt
      have hfx := HALL.out _ hmem
      clear hmem
      generalize hx : rd_T24 l0 (k : Int) = x at h0 h1 hfx
      have HX := Go.Lib.hid hx
      clear hx
      obtain rfl := e0
      have hBr : B < wr.heap.size := Nat.lt_of_lt_of_le hB HBb.out.size
      have hcr := (HBb.out.cell (p := ⟨B, 0, none⟩) hB).trans HC.out
      have hcl := in_closure n B x wr hBr hcr hfx
      clear hcr hfx
      have HCL := Go.Lib.hid hcl
      clear hcl
      by_cases hpx : inS n x = true
      · have HP := Go.Lib.hid hpx
        go_wp2_with (go_at_call 29; refine (HCL.out).mono ?_; rw [HP.out]; rintro e w' ⟨rfl, hb'⟩)
        clear hpx
        go_ret
        exact ⟨k, rfl, by rw [any_of_some (inS n) l0 k hlt (by have := HX.out; unfold rd_T24 at this; rw [Int.toNat_natCast] at this; rw [this]; exact HP.out)]; simp, HBb.out.trans (hb'.mono HBb.out.size)⟩
      · have hpx' : inS n x = false := by simpa using hpx
        clear hpx
        have HP := Go.Lib.hid hpx'
        go_wp2_with (go_at_call 29; refine (HCL.out).mono ?_; rw [HP.out]; rintro e w' ⟨rfl, hb'⟩)
        go_roundw
        case rel =>
          refine ⟨k + 1, by omega, by go_num, ?_, HBb.out.trans (hb'.mono HBb.out.size)⟩
          intro j hj
          by_cases e : j = k
          · subst e
            have := HX.out
            unfold rd_T24 at this
            rw [Int.toNat_natCast] at this
            rw [this]
            exact HP.out
          · exact HN.out j (by omega)
        case measure => simp [intOf]; omega
    · go_wp2
      go_ret
      exact ⟨-1, rfl, by rw [any_of_none (inS n) l0 (by have hkl : k = l0.length := (by omega); subst hkl; exact HN.out)]; simp, HBb.out⟩

theorem in_contains (n : Int) (B : Nat) (w : World) (hB : B < w.heap.size) (hcB : w.cell? ⟨B, 0, none⟩ = some (.int .u32 n)) (A0 : Option Addr) (c0 : Nat) (l0 : List (S24)) (hr0 : Kd.C k24 w A0 l0.length l0) (hl : l0.length ≤ 9223372036854775807) (hall : ∀ x ∈ l0, plane_In.f x.f0 x.f1 n = some (inS n x)) (r : Bool) (hr : l0.any (inS n) = r) :
    Calls Try.prog 28 #[.slice A0 l0.length c0, .func (.func 29) #[] #[.pointer (some ⟨B, 0, none⟩)]] w fun e w' => e = .returned (.bool r) ∧ Below w.heap.size w w' := by
  have HCON := Go.Lib.hid (in_index n B w hB hcB A0 c0 l0 hr0 hl hall)
  have HRr := Go.Lib.hid hr
  clear hr hr0 hcB hall
  go_enter Try.func28, Try.ntmps28
  go_wp2_with (first | (go_at_call 33; refine HCON.out.mono ?_; rintro e w' ⟨i, rfl, hi, hb⟩; have HI := Go.Lib.hid (hi.trans HRr.out); clear hi))
  go_ret
  exact ⟨by rw [← HI.out]; rfl, hb⟩

theorem plane_Any.calls (A0 : Option Addr) (c0 : Nat) (l0 : List (S24)) (a1 : Int) (r : Bool) (w : World) (hr0 : Kd.C k24 w A0 l0.length l0) (hc0 : l0.length ≤ c0) (h : plane_Any.f l0 a1 = some r) :
    Calls Try.prog 16 #[.slice A0 l0.length c0, .int .u32 a1] w fun e w' => e = .returned (.bool r) ∧ Below w.heap.size w w' := by
  unfold plane_Any.f at h
  by_cases hl : l0.length ≤ 9223372036854775807
  · rw [if_pos hl] at h
    by_cases hg : (l0.all boxOk && u32B a1) = true
    · rw [if_pos hg] at h
      have hr := Option.some.inj h
      clear h
      simp only [Bool.and_eq_true, List.all_eq_true] at hg
      have hall : ∀ x ∈ l0, plane_In.f x.f0 x.f1 a1 = some (inS a1 x) := fun x hx => by
        have hb := hg.1 x hx
        unfold boxOk at hb
        simp only [Bool.and_eq_true] at hb
        unfold plane_In.f
        rw [hb.1, hb.2, hg.2, if_pos (by rfl)]
        rfl
      have HCON := Go.Lib.hid (in_contains a1 w.heap.size (w.alloc (.cells #[.int .u32 a1] 22)) (by simp) (by simp) A0 c0 l0 (Kd.C_below hr0 (below_alloc (Below.refl _ _) _)) hl hall r hr)
      clear hr hr0 hall hg
      go_enter Try.func16, Try.ntmps16
      go_wp2_with (first | (go_at_call 28; refine HCON.out.mono ?_; rintro e w' ⟨rfl, hb⟩))
      go_ret
      exact ⟨rfl, (below_alloc (Below.refl _ _) _).trans (hb.mono (by simp))⟩
    · rw [if_neg hg] at h
      exact absurd h (by simp)
  · rw [if_neg hl] at h
    exact absurd h (by simp)
end Go.Proofs.Ytdkbfcogmlghfaa.P

namespace Go.Proofs.Ytdkbfcogmlghfaa.P
open Go.RowKit Go.Proofs.YtdkbfcogmlghfaaW.PrintWords Go.Proofs.YtdkbfcogmlghfaaW.PrintMore
set_option linter.unusedVariables false
set_option linter.unusedSimpArgs false
/-! Of numbers that rise: the first of each kind. -/
/-- In which of the boxes a community is. -/
def kb (l : List S24) (c : Int) : List UInt8 := l.map (fun b => if inS c b = true then 1 else 0)
theorem kb_iff (l : List S24) (c d : Int) : kb l c = kb l d ↔ ∀ b ∈ l, inS c b = inS d b := by
  unfold kb
  rw [List.map_inj_left]
  constructor
  · intro h b hb
    have := h b hb
    cases h1 : inS c b <;> cases h2 : inS d b <;> simp [h1, h2] at this ⊢
  · intro h b hb
    rw [h b hb]
def stepK (l : List S24) (s : List (List UInt8) × List Int) (c : Int) : List (List UInt8) × List Int :=
  if decide (kb l c ∈ s.1) = true then s else (kb l c :: s.1, s.2 ++ [c])
def runK (l : List S24) : List Int → List (List UInt8) × List Int → List (List UInt8) × List Int
  | [], s => s
  | c :: cs, s => runK l cs (stepK l s c)
structure InvK (l : List S24) (s : List (List UInt8) × List Int) : Prop where
  seen : ∀ x, x ∈ s.1 ↔ ∃ d ∈ s.2, kb l d = x
  rise : s.2.Pairwise (fun a b : Int => a < b)
  one : s.2.Pairwise (fun a b : Int => kb l a ≠ kb l b)
  len : s.1.length = s.2.length
theorem invK_nil (l : List S24) : InvK l ([], []) := ⟨by simp, List.Pairwise.nil, List.Pairwise.nil, rfl⟩
theorem runK_append (l : List S24) : ∀ (a b : List Int) (s), runK l (a ++ b) s = runK l b (runK l a s)
  | [], _, _ => rfl
  | c :: a, b, s => by simp only [List.cons_append, runK]; exact runK_append l a b _
theorem runK_spec (l : List S24) : ∀ (cs : List Int) (s : List (List UInt8) × List Int), InvK l s → cs.Pairwise (fun a b : Int => a < b) → (∀ d ∈ s.2, ∀ c ∈ cs, d < c) →
    InvK l (runK l cs s) ∧ (∀ d ∈ s.2, d ∈ (runK l cs s).2) ∧ (∀ c ∈ cs, ∃ d ∈ (runK l cs s).2, kb l d = kb l c ∧ d ≤ c) ∧ (∀ d ∈ (runK l cs s).2, d ∈ s.2 ∨ d ∈ cs) ∧ (runK l cs s).2.length ≤ s.2.length + cs.length
  | [], s, hi, _, _ => ⟨hi, fun d h => h, by simp, fun d h => .inl h, by simp [runK]⟩
  | c :: cs, s, hi, hp, hs => by
    rw [List.pairwise_cons] at hp
    have hstep : InvK l (stepK l s c) ∧ (∀ d ∈ s.2, d ∈ (stepK l s c).2) ∧ (∃ d ∈ (stepK l s c).2, kb l d = kb l c ∧ d ≤ c) ∧ (∀ d ∈ (stepK l s c).2, d ∈ s.2 ∨ d = c) ∧ (stepK l s c).2.length ≤ s.2.length + 1 := by
      unfold stepK
      by_cases hm : kb l c ∈ s.1
      · rw [if_pos (decide_eq_true hm)]
        obtain ⟨d, hd, he⟩ := (hi.seen _).1 hm
        exact ⟨hi, fun d h => h, ⟨d, hd, he, Int.le_of_lt (hs d hd c List.mem_cons_self)⟩, fun d h => .inl h, by omega⟩
      · rw [if_neg (by simpa using hm)]
        refine ⟨⟨fun x => ?_, ?_, ?_, ?_⟩, fun d h => List.mem_append_left _ h, ⟨c, by simp, rfl, Int.le_refl _⟩, fun d h => ?_, by simp⟩
        · simp only [List.mem_cons, List.mem_append, List.not_mem_nil, or_false]
          rw [hi.seen]
          constructor
          · rintro (rfl | ⟨d, hd, he⟩)
            · exact ⟨c, .inr rfl, rfl⟩
            · exact ⟨d, .inl hd, he⟩
          · rintro ⟨d, hd | rfl, he⟩
            · exact .inr ⟨d, hd, he⟩
            · exact .inl he.symm
        · rw [List.pairwise_append]
          refine ⟨hi.rise, List.pairwise_singleton _ _, fun a ha b hb => ?_⟩
          rw [List.mem_singleton.1 hb]
          exact hs a ha c List.mem_cons_self
        · rw [List.pairwise_append]
          refine ⟨hi.one, List.pairwise_singleton _ _, fun a ha b hb he => ?_⟩
          rw [List.mem_singleton.1 hb] at he
          exact hm ((hi.seen _).2 ⟨a, ha, he⟩)
        · simp only [List.length_cons, List.length_append, List.length_nil, hi.len]
        · rcases List.mem_append.1 h with h | h
          · exact .inl h
          · exact .inr (List.mem_singleton.1 h)
    obtain ⟨q1, q2, ⟨d0, q3, q4, q5⟩, q6, q7⟩ := hstep
    obtain ⟨r1, r2, r3, r4, r5⟩ := runK_spec l cs (stepK l s c) q1 hp.2 (fun d hd x hx => by
      rcases q6 d hd with h | rfl
      · exact hs d h x (List.mem_cons_of_mem _ hx)
      · exact hp.1 x hx)
    refine ⟨r1, fun d hd => r2 d (q2 d hd), fun x hx => ?_, fun d hd => ?_, by simp only [runK, List.length_cons]; omega⟩
    · rcases List.mem_cons.1 hx with rfl | hx
      · exact ⟨d0, r2 d0 q3, q4, q5⟩
      · exact r3 x hx
    · rcases r4 d hd with h | h
      · rcases q6 d h with h | rfl
        · exact .inl h
        · exact .inr List.mem_cons_self
      · exact .inr (List.mem_cons_of_mem _ h)
/-- The pairs of two lists that rise, as communities: they rise. -/
def gridK : List Int → List Int → List Int
  | [], _ => []
  | x :: xs, ys => ys.map (fun y => x * 65536 + y) ++ gridK xs ys
theorem mem_gridK (ys : List Int) (c : Int) : ∀ xs, c ∈ gridK xs ys ↔ ∃ x ∈ xs, ∃ y ∈ ys, c = x * 65536 + y
  | [] => by simp [gridK]
  | x :: xs => by
    simp only [gridK, List.mem_append, List.mem_map, mem_gridK ys c xs, List.mem_cons]
    constructor
    · rintro (⟨y, hy, rfl⟩ | ⟨x', hx', y, hy, rfl⟩)
      · exact ⟨x, .inl rfl, y, hy, rfl⟩
      · exact ⟨x', .inr hx', y, hy, rfl⟩
    · rintro ⟨x', rfl | hx', y, hy, rfl⟩
      · exact .inl ⟨y, hy, rfl⟩
      · exact .inr ⟨x', hx', y, hy, rfl⟩
theorem gridK_rise (ys : List Int) (hy : ys.Pairwise (fun a b : Int => a < b)) (hr : ∀ y ∈ ys, 0 ≤ y ∧ y < 65536) : ∀ xs : List Int, xs.Pairwise (fun a b : Int => a < b) → (gridK xs ys).Pairwise (fun a b : Int => a < b)
  | [], _ => List.Pairwise.nil
  | x :: xs, h => by
    rw [List.pairwise_cons] at h
    simp only [gridK]
    rw [List.pairwise_append]
    refine ⟨?_, gridK_rise ys hy hr xs h.2, ?_⟩
    · rw [List.pairwise_map]
      exact hy.imp (fun hab => by omega)
    · intro a ha b hb
      obtain ⟨y, hy1, rfl⟩ := List.mem_map.1 ha
      obtain ⟨x', hx', y', hy', rfl⟩ := (mem_gridK ys b xs).1 hb
      have := h.1 x' hx'
      have := hr y hy1
      have := hr y' hy'
      omega
end Go.Proofs.Ytdkbfcogmlghfaa.P
