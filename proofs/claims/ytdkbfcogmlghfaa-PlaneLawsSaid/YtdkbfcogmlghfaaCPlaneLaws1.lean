/- Part of the proof of the law PlaneLaws: the functions that it reaches, by contract. -/
import Derived.Test.YtdkbfcogmlghfaaCPlaneLaws0
namespace Go.Proofs.Ytdkbfcogmlghfaa.P
open Go.RowKit Go.Proofs.YtdkbfcogmlghfaaW.PrintWords Go.Proofs.YtdkbfcogmlghfaaW.PrintLast Go.Proofs.YtdkbfcogmlghfaaW.PrintMore
attribute [local go_sem] max2_int min2_int max_two min_two max_three min_three max_four min_four
set_option linter.unusedVariables false
set_option linter.unusedSimpArgs false

set_option maxHeartbeats 8000000 in
set_option maxRecDepth 100000 in
theorem cells_walk (k : Nat) (A0 : Option Addr) (c0 : Nat) (l0 : List (S24)) (r1 : List Int) (r2 : List Int) (r : List Int) (w : World) (hr0 : Kd.C k24 w A0 l0.length l0) (hc0 : l0.length ≤ c0) (h64 : ¬ 64 < (l0.length : Int)) (h : cells_half.f k l0 = some (r1, r2)) (h2 : cellsTail k l0 r1 r2 = some r) :
    Calls Try.prog 12 #[.slice A0 l0.length c0] w fun e w' => ∃ v0_ : Value, e = .returned (.tuple #[v0_, .int .i64 0]) ∧ Kd.R (Kd.int .u32) 22 w' w.heap.size (fun _ => True) v0_ r ∧ Below w.heap.size w w' := by
  have H2 := Am h2
  clear h2
  have hmm := @run_makeMap Try.prog
  have hu24 := Try.underlying24
  have HR0 := Am hr0
  have HC0 := Am hc0
  clear hr0 hc0
  have HB := Am (Below.refl w.heap.size w)
  have H : (cells_half.l0 k (([0] : List Int)) (([0] : List Int)) l0 (l0.length : Int) 0) = some (r1, r2) := h
  clear h
  obtain ⟨y1, hy1⟩ : ∃ y_ : List Int, y_ = (([0] : List Int)) := ⟨_, rfl⟩
  replace H : (cells_half.l0 k y1 (([0] : List Int)) l0 (l0.length : Int) 0) = some (r1, r2) := by first | (rw [hy1]; with_reducible exact H) | (have H2_ := (Option.bind_some _ _).symm.trans H; rw [hy1]; with_reducible exact H2_) | (have H2_ := (Option.bind_some _ _).symm.trans H; with_reducible exact H2_) | with_reducible exact H | (rw [hy1]; exact H) | exact H
  have Ny1 := Am hy1
  clear hy1
  obtain ⟨y4, hy4⟩ : ∃ y_ : List Int, y_ = (([0] : List Int)) := ⟨_, rfl⟩
  replace H : (cells_half.l0 k y1 y4 l0 (l0.length : Int) 0) = some (r1, r2) := by first | (rw [hy4]; with_reducible exact H) | (have H2_ := (Option.bind_some _ _).symm.trans H; rw [hy4]; with_reducible exact H2_) | (have H2_ := (Option.bind_some _ _).symm.trans H; with_reducible exact H2_) | with_reducible exact H | (rw [hy4]; exact H) | exact H
  have Ny4 := Am hy4
  clear hy4
  have H' := Am H
  clear H
  go_enter Try.func12, Try.ntmps12
  go_wp2_with (first | ((with_reducible refine gate_dst (N := 21) rfl ?_); refine Kd.R_lit (Kd.int .u32) _ 22 ?hg (N := 21) ?hd (xs := ([0] : List Int)) (inner := [.int .u32 0]) (ok := fun _ => True) (okp := fun _ => True) ?hr ?hp (fun _ hk => hk) trivial (Below.refl _ _) (Nat.le_refl _) (by simp) ?_; (case hd => rfl); (case hg => rfl); (case hr => first | (go_simp; done) | (go_simp; rfl)); (case hp => exact (Reps.one (show Kd.M (Kd.int .u32) _ _ _ 0 [.int .u32 0] from rfl) (Reps.none _ _))); intro v2 w2 ho3 hb hg_ hnew_; clear hg_ hnew_; (first | rw [← Ny1.out] at ho3 | (simp only [Int.reduceToNat] at ho3; rw [← Ny1.out] at ho3)); have n0_ := Am (Kd.R_lower ho3 (below_size (by repeat (first | (with_reducible first | exact HB.out | apply lA | apply lN | apply lD) | exact HB.out)))); have n1_ := Am (below_step (by repeat (first | (with_reducible first | exact HB.out | apply lA | apply lN | apply lD) | exact HB.out)) hb); clear HB; have HO3 := n0_; have HB := n1_; clear n0_ n1_; clear hb ho3) | ((with_reducible refine gate_dst (N := 22) rfl ?_); refine Kd.R_lit (Kd.int .u32) _ 22 ?hg (N := 22) ?hd (xs := ([0] : List Int)) (inner := [.int .u32 0]) (ok := fun _ => True) (okp := fun _ => True) ?hr ?hp (fun _ hk => hk) trivial (Below.refl _ _) (Nat.le_refl _) (by simp) ?_; (case hd => rfl); (case hg => rfl); (case hr => first | (go_simp; done) | (go_simp; rfl)); (case hp => exact (Reps.one (show Kd.M (Kd.int .u32) _ _ _ 0 [.int .u32 0] from rfl) (Reps.none _ _))); intro v5 w4 ho5 hb hg_ hnew_; clear hg_ hnew_; (first | rw [← Ny4.out] at ho5 | (simp only [Int.reduceToNat] at ho5; rw [← Ny4.out] at ho5)); have n0_ := Am (Kd.R_elder' (by (with_reducible repeat (first | apply rA | apply rN | apply rD)); exact HO3.out) (Kd.R_base ho5) hb); have n1_ := Am (Kd.R_lower (Kd.R_new' ho5 (rL (by (with_reducible repeat (first | apply rA | apply rN | apply rD)); exact HO3.out))) (below_size (by repeat (first | (with_reducible first | exact HB.out | apply lA | apply lN | apply lD) | exact HB.out)))); have n2_ := Am (below_step (by repeat (first | (with_reducible first | exact HB.out | apply lA | apply lN | apply lD) | exact HB.out)) hb); clear HO3; clear HB; have HO3 := n0_; have HO6 := n1_; have HB := n2_; clear n0_ n1_ n2_; clear hb ho5))
  go_loopg [4, 5, 25] k (fun kq v4 v5 v25 w' => ∃ (x4_1 : List Int) (x5_1 : List Int) (xb : Int), v25 = .int .i64 xb ∧ Aside0 (cells_half.l0 kq x4_1 x5_1 l0 (l0.length : Int) xb = some (r1, r2)) ∧ Aside0 (kq ≤ k) ∧ Aside0 (Kd.R (Kd.int .u32) 22 w' w.heap.size (fun k_ => some k_ ≠ (v5 : Value).ownBlock) v4 x4_1) ∧ Aside0 (Kd.R (Kd.int .u32) 22 w' w.heap.size (fun k_ => some k_ ≠ (v4 : Value).ownBlock) v5 x5_1) ∧ Aside0 (Below w.heap.size w w'))
  case atStart => exact ⟨(y1), (y4), (0), (by first | rfl | (simp; done) | (simp [*]; done)), H', ⟨Nat.le_refl _⟩, ⟨by (with_reducible repeat (first | apply rA | apply rN | apply rD)); exact rM HO3.out (fun _ hk => hk.2)⟩, ⟨by (with_reducible repeat (first | apply rA | apply rN | apply rD)); exact rM HO6.out (fun _ hk => hk.2)⟩, ⟨by repeat (first | (with_reducible first | exact HB.out | apply lA | apply lN | apply lD) | exact HB.out)⟩⟩
  case round =>
    clear H'
    try clear c1
    try clear p2
    obtain ⟨x4_1, x5_1, xb, rfl, HA, HK1, HO_4, HO_5, HB⟩ := hrel
    cases gk with
    | zero => exact absurd HA.out (by simp [cells_half.l0])
    | succ k1 =>
      have H := HA.out
      clear HA
      simp only [cells_half.l0] at H
      by_cases c6 : xb < (l0.length : Int)
      · rw [if_pos c6] at H
        have c6b0 : decide (xb < (l0.length : Int)) = true := decide_eq_true c6
        clear c6
        by_cases c7 : 0 ≤ xb
        · rw [if_pos c7] at H
          have c7b0 : decide (0 ≤ xb) = true := decide_eq_true c7
          clear c7
          by_cases c8 : xb < (l0.length : Int)
          · rw [if_pos c8] at H
            have c8b0 : decide (xb < (l0.length : Int)) = true := decide_eq_true c8
            clear c8
            obtain ⟨y11, hy11⟩ : ∃ y_ : List Int, y_ = (([(Int.tdiv ((rd_T24 l0 xb).f0) 65536) % 4294967296] : List Int)) := ⟨_, rfl⟩
            replace H : (if x4_1.length + y11.length < 35184372088832 then ((some (x4_1 ++ y11 : List Int)).bind fun y14 => ((some (([Int.tmod ((rd_T24 l0 xb).f0) 65536] : List Int) : List Int)).bind fun y17 => (if x5_1.length + y17.length < 35184372088832 then ((some (x5_1 ++ y17 : List Int)).bind fun y20 => (if (((Int.tdiv ((rd_T24 l0 xb).f1) 65536) + 1) % 4294967296) < 65536 then ((some (([((Int.tdiv ((rd_T24 l0 xb).f1) 65536) + 1) % 4294967296] : List Int) : List Int)).bind fun y23 => (if y14.length + y23.length < 35184372088832 then ((some (y14 ++ y23 : List Int)).bind fun y26 => (if (((Int.tmod ((rd_T24 l0 xb).f1) 65536) + 1) % 4294967296) < 65536 then ((some (([((Int.tmod ((rd_T24 l0 xb).f1) 65536) + 1) % 4294967296] : List Int) : List Int)).bind fun y29 => (if y20.length + y29.length < 35184372088832 then (cells_half.l0 k1 y26 (y20 ++ y29) l0 (l0.length : Int) (wrap64 (xb + 1))) else (none))) else (cells_half.l0 k1 y26 y20 l0 (l0.length : Int) (wrap64 (xb + 1))))) else (none))) else (if (((Int.tmod ((rd_T24 l0 xb).f1) 65536) + 1) % 4294967296) < 65536 then ((some (([((Int.tmod ((rd_T24 l0 xb).f1) 65536) + 1) % 4294967296] : List Int) : List Int)).bind fun y35 => (if y20.length + y35.length < 35184372088832 then (cells_half.l0 k1 y14 (y20 ++ y35) l0 (l0.length : Int) (wrap64 (xb + 1))) else (none))) else (cells_half.l0 k1 y14 y20 l0 (l0.length : Int) (wrap64 (xb + 1)))))) else (none)))) else (none)) = some (r1, r2) := by first | (rw [hy11]; with_reducible exact H) | (have H2_ := (Option.bind_some _ _).symm.trans H; rw [hy11]; with_reducible exact H2_) | (have H2_ := (Option.bind_some _ _).symm.trans H; with_reducible exact H2_) | with_reducible exact H | (rw [hy11]; exact H) | exact H
            have Ny11 := Am hy11
            clear hy11
            by_cases c9 : x4_1.length + y11.length < 35184372088832
            · rw [if_pos c9] at H
              have LMc9 := Am c9
              clear c9
              obtain ⟨y14, hy14⟩ : ∃ y_ : List Int, y_ = (x4_1 ++ y11) := ⟨_, rfl⟩
              replace H : ((some (([Int.tmod ((rd_T24 l0 xb).f0) 65536] : List Int) : List Int)).bind fun y17 => (if x5_1.length + y17.length < 35184372088832 then ((some (x5_1 ++ y17 : List Int)).bind fun y20 => (if (((Int.tdiv ((rd_T24 l0 xb).f1) 65536) + 1) % 4294967296) < 65536 then ((some (([((Int.tdiv ((rd_T24 l0 xb).f1) 65536) + 1) % 4294967296] : List Int) : List Int)).bind fun y23 => (if y14.length + y23.length < 35184372088832 then ((some (y14 ++ y23 : List Int)).bind fun y26 => (if (((Int.tmod ((rd_T24 l0 xb).f1) 65536) + 1) % 4294967296) < 65536 then ((some (([((Int.tmod ((rd_T24 l0 xb).f1) 65536) + 1) % 4294967296] : List Int) : List Int)).bind fun y29 => (if y20.length + y29.length < 35184372088832 then (cells_half.l0 k1 y26 (y20 ++ y29) l0 (l0.length : Int) (wrap64 (xb + 1))) else (none))) else (cells_half.l0 k1 y26 y20 l0 (l0.length : Int) (wrap64 (xb + 1))))) else (none))) else (if (((Int.tmod ((rd_T24 l0 xb).f1) 65536) + 1) % 4294967296) < 65536 then ((some (([((Int.tmod ((rd_T24 l0 xb).f1) 65536) + 1) % 4294967296] : List Int) : List Int)).bind fun y35 => (if y20.length + y35.length < 35184372088832 then (cells_half.l0 k1 y14 (y20 ++ y35) l0 (l0.length : Int) (wrap64 (xb + 1))) else (none))) else (cells_half.l0 k1 y14 y20 l0 (l0.length : Int) (wrap64 (xb + 1)))))) else (none))) = some (r1, r2) := by first | (rw [hy14]; with_reducible exact H) | (have H2_ := (Option.bind_some _ _).symm.trans H; rw [hy14]; with_reducible exact H2_) | (have H2_ := (Option.bind_some _ _).symm.trans H; with_reducible exact H2_) | with_reducible exact H | (rw [hy14]; exact H) | exact H
              have Ny14 := Am hy14
              clear hy14
              obtain ⟨y17, hy17⟩ : ∃ y_ : List Int, y_ = (([Int.tmod ((rd_T24 l0 xb).f0) 65536] : List Int)) := ⟨_, rfl⟩
              replace H : (if x5_1.length + y17.length < 35184372088832 then ((some (x5_1 ++ y17 : List Int)).bind fun y20 => (if (((Int.tdiv ((rd_T24 l0 xb).f1) 65536) + 1) % 4294967296) < 65536 then ((some (([((Int.tdiv ((rd_T24 l0 xb).f1) 65536) + 1) % 4294967296] : List Int) : List Int)).bind fun y23 => (if y14.length + y23.length < 35184372088832 then ((some (y14 ++ y23 : List Int)).bind fun y26 => (if (((Int.tmod ((rd_T24 l0 xb).f1) 65536) + 1) % 4294967296) < 65536 then ((some (([((Int.tmod ((rd_T24 l0 xb).f1) 65536) + 1) % 4294967296] : List Int) : List Int)).bind fun y29 => (if y20.length + y29.length < 35184372088832 then (cells_half.l0 k1 y26 (y20 ++ y29) l0 (l0.length : Int) (wrap64 (xb + 1))) else (none))) else (cells_half.l0 k1 y26 y20 l0 (l0.length : Int) (wrap64 (xb + 1))))) else (none))) else (if (((Int.tmod ((rd_T24 l0 xb).f1) 65536) + 1) % 4294967296) < 65536 then ((some (([((Int.tmod ((rd_T24 l0 xb).f1) 65536) + 1) % 4294967296] : List Int) : List Int)).bind fun y35 => (if y20.length + y35.length < 35184372088832 then (cells_half.l0 k1 y14 (y20 ++ y35) l0 (l0.length : Int) (wrap64 (xb + 1))) else (none))) else (cells_half.l0 k1 y14 y20 l0 (l0.length : Int) (wrap64 (xb + 1)))))) else (none)) = some (r1, r2) := by first | (rw [hy17]; with_reducible exact H) | (have H2_ := (Option.bind_some _ _).symm.trans H; rw [hy17]; with_reducible exact H2_) | (have H2_ := (Option.bind_some _ _).symm.trans H; with_reducible exact H2_) | with_reducible exact H | (rw [hy17]; exact H) | exact H
              have Ny17 := Am hy17
              clear hy17
              by_cases c10 : x5_1.length + y17.length < 35184372088832
              · rw [if_pos c10] at H
                have LMc10 := Am c10
                clear c10
                obtain ⟨y20, hy20⟩ : ∃ y_ : List Int, y_ = (x5_1 ++ y17) := ⟨_, rfl⟩
                replace H : (if (((Int.tdiv ((rd_T24 l0 xb).f1) 65536) + 1) % 4294967296) < 65536 then ((some (([((Int.tdiv ((rd_T24 l0 xb).f1) 65536) + 1) % 4294967296] : List Int) : List Int)).bind fun y23 => (if y14.length + y23.length < 35184372088832 then ((some (y14 ++ y23 : List Int)).bind fun y26 => (if (((Int.tmod ((rd_T24 l0 xb).f1) 65536) + 1) % 4294967296) < 65536 then ((some (([((Int.tmod ((rd_T24 l0 xb).f1) 65536) + 1) % 4294967296] : List Int) : List Int)).bind fun y29 => (if y20.length + y29.length < 35184372088832 then (cells_half.l0 k1 y26 (y20 ++ y29) l0 (l0.length : Int) (wrap64 (xb + 1))) else (none))) else (cells_half.l0 k1 y26 y20 l0 (l0.length : Int) (wrap64 (xb + 1))))) else (none))) else (if (((Int.tmod ((rd_T24 l0 xb).f1) 65536) + 1) % 4294967296) < 65536 then ((some (([((Int.tmod ((rd_T24 l0 xb).f1) 65536) + 1) % 4294967296] : List Int) : List Int)).bind fun y35 => (if y20.length + y35.length < 35184372088832 then (cells_half.l0 k1 y14 (y20 ++ y35) l0 (l0.length : Int) (wrap64 (xb + 1))) else (none))) else (cells_half.l0 k1 y14 y20 l0 (l0.length : Int) (wrap64 (xb + 1))))) = some (r1, r2) := by first | (rw [hy20]; with_reducible exact H) | (have H2_ := (Option.bind_some _ _).symm.trans H; rw [hy20]; with_reducible exact H2_) | (have H2_ := (Option.bind_some _ _).symm.trans H; with_reducible exact H2_) | with_reducible exact H | (rw [hy20]; exact H) | exact H
                have Ny20 := Am hy20
                clear hy20
                by_cases c11 : (((Int.tdiv ((rd_T24 l0 xb).f1) 65536) + 1) % 4294967296) < 65536
                · rw [if_pos c11] at H
                  have c11b0 : decide ((((Int.tdiv ((rd_T24 l0 xb).f1) 65536) + 1) % 4294967296) < 65536) = true := decide_eq_true c11
                  clear c11
                  obtain ⟨y23, hy23⟩ : ∃ y_ : List Int, y_ = (([((Int.tdiv ((rd_T24 l0 xb).f1) 65536) + 1) % 4294967296] : List Int)) := ⟨_, rfl⟩
                  replace H : (if y14.length + y23.length < 35184372088832 then ((some (y14 ++ y23 : List Int)).bind fun y26 => (if (((Int.tmod ((rd_T24 l0 xb).f1) 65536) + 1) % 4294967296) < 65536 then ((some (([((Int.tmod ((rd_T24 l0 xb).f1) 65536) + 1) % 4294967296] : List Int) : List Int)).bind fun y29 => (if y20.length + y29.length < 35184372088832 then (cells_half.l0 k1 y26 (y20 ++ y29) l0 (l0.length : Int) (wrap64 (xb + 1))) else (none))) else (cells_half.l0 k1 y26 y20 l0 (l0.length : Int) (wrap64 (xb + 1))))) else (none)) = some (r1, r2) := by first | (rw [hy23]; with_reducible exact H) | (have H2_ := (Option.bind_some _ _).symm.trans H; rw [hy23]; with_reducible exact H2_) | (have H2_ := (Option.bind_some _ _).symm.trans H; with_reducible exact H2_) | with_reducible exact H | (rw [hy23]; exact H) | exact H
                  have Ny23 := Am hy23
                  clear hy23
                  by_cases c12 : y14.length + y23.length < 35184372088832
                  · rw [if_pos c12] at H
                    have LMc12 := Am c12
                    clear c12
                    obtain ⟨y26, hy26⟩ : ∃ y_ : List Int, y_ = (y14 ++ y23) := ⟨_, rfl⟩
                    replace H : (if (((Int.tmod ((rd_T24 l0 xb).f1) 65536) + 1) % 4294967296) < 65536 then ((some (([((Int.tmod ((rd_T24 l0 xb).f1) 65536) + 1) % 4294967296] : List Int) : List Int)).bind fun y29 => (if y20.length + y29.length < 35184372088832 then (cells_half.l0 k1 y26 (y20 ++ y29) l0 (l0.length : Int) (wrap64 (xb + 1))) else (none))) else (cells_half.l0 k1 y26 y20 l0 (l0.length : Int) (wrap64 (xb + 1)))) = some (r1, r2) := by first | (rw [hy26]; with_reducible exact H) | (have H2_ := (Option.bind_some _ _).symm.trans H; rw [hy26]; with_reducible exact H2_) | (have H2_ := (Option.bind_some _ _).symm.trans H; with_reducible exact H2_) | with_reducible exact H | (rw [hy26]; exact H) | exact H
                    have Ny26 := Am hy26
                    clear hy26
                    by_cases c13 : (((Int.tmod ((rd_T24 l0 xb).f1) 65536) + 1) % 4294967296) < 65536
                    · rw [if_pos c13] at H
                      have c13b0 : decide ((((Int.tmod ((rd_T24 l0 xb).f1) 65536) + 1) % 4294967296) < 65536) = true := decide_eq_true c13
                      clear c13
                      obtain ⟨y29, hy29⟩ : ∃ y_ : List Int, y_ = (([((Int.tmod ((rd_T24 l0 xb).f1) 65536) + 1) % 4294967296] : List Int)) := ⟨_, rfl⟩
                      replace H : (if y20.length + y29.length < 35184372088832 then (cells_half.l0 k1 y26 (y20 ++ y29) l0 (l0.length : Int) (wrap64 (xb + 1))) else (none)) = some (r1, r2) := by first | (rw [hy29]; with_reducible exact H) | (have H2_ := (Option.bind_some _ _).symm.trans H; rw [hy29]; with_reducible exact H2_) | (have H2_ := (Option.bind_some _ _).symm.trans H; with_reducible exact H2_) | with_reducible exact H | (rw [hy29]; exact H) | exact H
                      have Ny29 := Am hy29
                      clear hy29
                      by_cases c14 : y20.length + y29.length < 35184372088832
                      · rw [if_pos c14] at H
                        have LMc14 := Am c14
                        clear c14
                        obtain ⟨y32, hy32⟩ : ∃ y_ : List Int, y_ = (y20 ++ y29) := ⟨_, rfl⟩
                        replace H : (cells_half.l0 k1 y26 y32 l0 (l0.length : Int) (wrap64 (xb + 1))) = some (r1, r2) := by first | (rw [hy32]; with_reducible exact H) | (have H2_ := (Option.bind_some _ _).symm.trans H; rw [hy32]; with_reducible exact H2_) | (have H2_ := (Option.bind_some _ _).symm.trans H; with_reducible exact H2_) | with_reducible exact H | (rw [hy32]; exact H) | exact H
                        have Ny32 := Am hy32
                        clear hy32
                        have H' := Am H
                        clear H
                        have p9 : 0 ≤ (xb : Int) := of_decide_eq_true (by first | (with_reducible assumption) | assumption)
                        have q9 : xb < (l0.length : Int) := of_decide_eq_true (by first | (with_reducible assumption) | assumption)
                        obtain ⟨ad9, e9, hx9_0, hx9_1⟩ := at_T24 HR0.out xb p9 q9
                        cases e9
                        replace hx9_0 := (HB.out.cell (World.block_lt_of_cell? w _ hx9_0)).trans hx9_0
                        replace hx9_1 := (HB.out.cell (World.block_lt_of_cell? w _ hx9_1)).trans hx9_1
                        replace p9 := eq_true p9
                        replace q9 := eq_true q9
                        try go_wp2_with (first | ((with_reducible refine gate_dst (N := 7) rfl ?_); refine box_event ?hg (N := 7) ?hd (cs := #[.int .u32 0, .int .u32 0]) (t := 24) ?hr ?_; (case hd => rfl); (case hg => rfl); (case hr => first | (go_simp; done) | (go_simp; rfl)); intro gb10 hg w15 hbox hb; have n0_ := Am (Kd.R_below (by (with_reducible repeat (first | apply rA | apply rN | apply rD)); exact HO_4.out) hb); have n1_ := Am (Kd.R_below (by (with_reducible repeat (first | apply rA | apply rN | apply rD)); exact HO_5.out) hb); have n2_ := Am (below_step (by repeat (first | (with_reducible first | exact HB.out | apply lA | apply lN | apply lD) | exact HB.out)) hb); have n3_ := Am (hbox); have n4_ := Am ((by rw [hg]; exact (below_size (by repeat (first | (with_reducible first | exact HB.out | apply lA | apply lN | apply lD) | exact HB.out))) : w.heap.size ≤ gb10)); have n5_ := Am ((by rw [hg]; exact (below_size (by repeat (first | (with_reducible first | exact HB.out | apply lA | apply lN | apply lD) | exact HB.out))) : w.heap.size ≤ gb10)); clear HO_4; clear HO_5; clear HB; have HO_4 := n0_; have HO_5 := n1_; have HB := n2_; have BK10 := n3_; have GW10 := n4_; have GE10 := n5_; clear n0_ n1_ n2_ n3_ n4_ n5_; clear hb hbox hg; have hcz16_0 : w15.cell? ⟨gb10, 0, none⟩ = some (.int .u32 0) := (blk_cell BK10.out 0).trans rfl; have hcz16_1 : w15.cell? ⟨gb10, 1, none⟩ = some (.int .u32 0) := (blk_cell BK10.out 1).trans rfl; have hfz16_0 := blk_frozen BK10.out 0; have hfz16_1 := blk_frozen BK10.out 1; obtain ⟨Ao17, co17, eo17⟩ := Kd.R_slice HO_4.out; subst eo17; obtain ⟨Ao18, co18, eo18⟩ := Kd.R_slice HO_5.out; subst eo18))
                        have n0_ : Aside0 (Kd.R (Kd.int .u32) 22 ((w15.setCell ⟨gb10, 0, none⟩ (.int .u32 ((rd_T24 l0 xb).f0))).setCell ⟨gb10, 1, none⟩ (.int .u32 ((rd_T24 l0 xb).f1))) w.heap.size (fun k_ => some k_ ≠ (.slice Ao18 x5_1.length co18 : Value).ownBlock) (.slice Ao17 x4_1.length co17) x4_1) := ⟨by (with_reducible repeat (first | apply rA | apply rN | apply rD)); exact rM (Kd.R_far (p := ⟨gb10, 1, none⟩) (Kd.R_far (p := ⟨gb10, 0, none⟩) (Kd.R_types HO_4.out BK10.out (by decide)) (fun _ hk => hk.2) (.int .u32 ((rd_T24 l0 xb).f0))) (fun _ hk => hk.2) (.int .u32 ((rd_T24 l0 xb).f1))) (fun _ hk => hk.1)⟩
                        have n1_ : Aside0 (Kd.R (Kd.int .u32) 22 ((w15.setCell ⟨gb10, 0, none⟩ (.int .u32 ((rd_T24 l0 xb).f0))).setCell ⟨gb10, 1, none⟩ (.int .u32 ((rd_T24 l0 xb).f1))) w.heap.size (fun k_ => some k_ ≠ (.slice Ao17 x4_1.length co17 : Value).ownBlock) (.slice Ao18 x5_1.length co18) x5_1) := ⟨by (with_reducible repeat (first | apply rA | apply rN | apply rD)); exact rM (Kd.R_far (p := ⟨gb10, 1, none⟩) (Kd.R_far (p := ⟨gb10, 0, none⟩) (Kd.R_types HO_5.out BK10.out (by decide)) (fun _ hk => hk.2) (.int .u32 ((rd_T24 l0 xb).f0))) (fun _ hk => hk.2) (.int .u32 ((rd_T24 l0 xb).f1))) (fun _ hk => hk.1)⟩
                        have n2_ : Aside0 (((w15.setCell ⟨gb10, 0, none⟩ (.int .u32 ((rd_T24 l0 xb).f0))).setCell ⟨gb10, 1, none⟩ (.int .u32 ((rd_T24 l0 xb).f1))).heap[gb10]? = some (.cells #[.int .u32 ((rd_T24 l0 xb).f0), .int .u32 ((rd_T24 l0 xb).f1)] 24 (0, 0))) := ⟨by (with_reducible repeat (first | refine blk_drewN ?_ _ | refine blk_drew ?_ | refine blk_alloc ?_ _)); refine blk_put (cs := #[.int .u32 ((rd_T24 l0 xb).f0), .int .u32 0]) ?_ 1 _ rfl; (with_reducible repeat (first | refine blk_drewN ?_ _ | refine blk_drew ?_ | refine blk_alloc ?_ _)); refine blk_put (cs := #[.int .u32 0, .int .u32 0]) ?_ 0 _ rfl; (with_reducible repeat (first | refine blk_drewN ?_ _ | refine blk_drew ?_ | refine blk_alloc ?_ _)); exact BK10.out⟩
                        have n3_ : Aside0 (Below w.heap.size w ((w15.setCell ⟨gb10, 0, none⟩ (.int .u32 ((rd_T24 l0 xb).f0))).setCell ⟨gb10, 1, none⟩ (.int .u32 ((rd_T24 l0 xb).f1)))) := ⟨by repeat (first | (with_reducible first | exact HB.out | apply lA | apply lN | apply lD | refine below_set ?_ GE10.out) | exact HB.out)⟩
                        (try clear HO_4)
                        (try clear HO_5)
                        (try clear BK10)
                        (try clear HB)
                        generalize ((w15.setCell ⟨gb10, 0, none⟩ (.int .u32 ((rd_T24 l0 xb).f0))).setCell ⟨gb10, 1, none⟩ (.int .u32 ((rd_T24 l0 xb).f1))) = w19 at n0_ n1_ n2_ n3_ ⊢
                        have HO_4 := n0_
                        have HO_5 := n1_
                        have BK10 := n2_
                        have HB := n3_
                        clear n0_ n1_ n2_ n3_
                        have n0_ := Am (Kd.R_drew HO_4.out)
                        have n1_ := Am (Kd.R_drew HO_5.out)
                        have n2_ := Am (blk_drew BK10.out)
                        have n3_ := Am (lD HB.out)
                        clear HO_4
                        clear HO_5
                        clear BK10
                        clear HB
                        have HO_4 := n0_
                        have HO_5 := n1_
                        have BK10 := n2_
                        have HB := n3_
                        clear n0_ n1_ n2_ n3_
                        refine start_ (n := 14) (S := fun w' => w'.cell? ⟨gb10, 0, none⟩ = some (.int .u32 ((rd_T24 l0 xb).f0)) ∧ w'.cell? ⟨gb10, 1, none⟩ = some (.int .u32 ((rd_T24 l0 xb).f1))) (ds := []) #[false, false, false, false, false, false, false, false, false, false, false, false, false, false] (by kernel_rfl) rfl rfl ⟨(blk_cell BK10.out 0).trans rfl, (blk_cell BK10.out 1).trans rfl⟩ (fun hHeld => ?_); refine with_tabW cells_half.tab7 cells_half.bits7 (fun HT_ HW_ => ?_)
                        generalize w19.drew = w20 at HO_4 HO_5 BK10 HB hHeld ⊢
                        refine pure_ (i := 0) (N := some 29) (v := ?_) (a' := ?_) #[true, false, false, false, false, false, false, false, false, false, false, false, false, false] rfl rfl (any_of HT_.out (by kernel_rfl)) (fun _ _ _ h => h) (Or.inl ⟨by rfl, ?_⟩) ?_ ?_
                        rotate_left
                        · intro w'
                          go_simp
                          with_reducible rfl
                        rotate_left
                        · simp only [Act.put, List.setIfInBounds_toArray, List.set_cons_zero, List.set_cons_succ, i64_w, i32_w, IntKind.wrap_u32]
                          rfl
                        refine pure_ (i := 1) (N := some 30) (v := ?_) (a' := ?_) #[true, true, false, false, false, false, false, false, false, false, false, false, false, false] rfl rfl (any_of HT_.out (by kernel_rfl)) (fun _ _ _ h => h) (Or.inl ⟨by rfl, ?_⟩) ?_ ?_
                        rotate_left
                        · intro w'
                          go_simp
                          with_reducible rfl
                        rotate_left
                        · simp only [Act.put, List.setIfInBounds_toArray, List.set_cons_zero, List.set_cons_succ, i64_w, i32_w, IntKind.wrap_u32]
                          rfl
                        refine pure_ (i := 6) (N := some 35) (v := ?_) (a' := ?_) #[true, true, false, false, false, false, true, false, false, false, false, false, false, false] rfl rfl (any_of HT_.out (by kernel_rfl)) (fun _ _ _ h => h) (Or.inl ⟨by rfl, ?_⟩) ?_ ?_
                        rotate_left
                        · intro w'
                          go_simp
                          with_reducible rfl
                        rotate_left
                        · simp only [Act.put, List.setIfInBounds_toArray, List.set_cons_zero, List.set_cons_succ, i64_w, i32_w, IntKind.wrap_u32]
                          rfl
                        refine pure_ (i := 7) (N := some 36) (v := ?_) (a' := ?_) #[true, true, false, false, false, false, true, true, false, false, false, false, false, false] rfl rfl (any_of HT_.out (by kernel_rfl)) (fun _ _ _ h => h) (Or.inl ⟨by rfl, ?_⟩) ?_ ?_
                        rotate_left
                        · intro w'
                          go_simp
                          with_reducible rfl
                        rotate_left
                        · simp only [Act.put, List.setIfInBounds_toArray, List.set_cons_zero, List.set_cons_succ, i64_w, i32_w, IntKind.wrap_u32]
                          rfl
                        refine take_ (i := 2) (N := some 31) (v := ?_) (a' := ?_) #[true, true, true, false, false, false, true, true, false, false, false, false, false, false] rfl rfl (take_ofW HT_.out HW_.out (by kernel_rfl)) (fun _ _ _ h => h) (Or.inl ⟨by rfl, ?_⟩) hHeld ?_ ?_
                        rotate_left
                        · rintro w' ⟨s0, s1⟩
                          go_simp
                          with_reducible rfl
                        rotate_left
                        · simp only [Act.put, List.setIfInBounds_toArray, List.set_cons_zero, List.set_cons_succ, i64_w, i32_w, IntKind.wrap_u32]
                          rfl
                        refine pure_ (i := 3) (N := some 32) (v := ?_) (a' := ?_) #[true, true, true, true, false, false, true, true, false, false, false, false, false, false] rfl rfl (any_of HT_.out (by kernel_rfl)) (fun _ _ _ h => h) (Or.inl ⟨by rfl, ?_⟩) ?_ ?_
                        rotate_left
                        · intro w'
                          go_simp
                          with_reducible rfl
                        rotate_left
                        · simp only [Act.put, List.setIfInBounds_toArray, List.set_cons_zero, List.set_cons_succ, i64_w, i32_w, IntKind.wrap_u32]
                          rfl
                        refine take_ (i := 8) (N := some 37) (v := ?_) (a' := ?_) #[true, true, true, true, false, false, true, true, true, false, false, false, false, false] rfl rfl (take_ofW HT_.out HW_.out (by kernel_rfl)) (fun _ _ _ h => h) (Or.inl ⟨by rfl, ?_⟩) hHeld ?_ ?_
                        rotate_left
                        · rintro w' ⟨s0, s1⟩
                          go_simp
                          with_reducible rfl
                        rotate_left
                        · simp only [Act.put, List.setIfInBounds_toArray, List.set_cons_zero, List.set_cons_succ, i64_w, i32_w, IntKind.wrap_u32]
                          rfl
                        refine pure_ (i := 9) (N := some 38) (v := ?_) (a' := ?_) #[true, true, true, true, false, false, true, true, true, true, false, false, false, false] rfl rfl (any_of HT_.out (by kernel_rfl)) (fun _ _ _ h => h) (Or.inl ⟨by rfl, ?_⟩) ?_ ?_
                        rotate_left
                        · intro w'
                          go_simp
                          with_reducible rfl
                        rotate_left
                        · simp only [Act.put, List.setIfInBounds_toArray, List.set_cons_zero, List.set_cons_succ, i64_w, i32_w, IntKind.wrap_u32]
                          rfl
                        refine join_ (σ := Value × Value × Value) 3 #[true, true, true, true, true, true, true, true, true, true, true, false, false, false] (fun s_ => [(33, s_.1), (34, s_.2.1), (39, s_.2.2)]) (fun s_ w' => (w'.cell? ⟨gb10, 0, none⟩ = some (.int .u32 ((rd_T24 l0 xb).f0)) ∧ w'.cell? ⟨gb10, 1, none⟩ = some (.int .u32 ((rd_T24 l0 xb).f1))) ∧ (Kd.R (Kd.int .u32) 22 w' w.heap.size (fun k_ => some k_ ≠ (s_.2.1 : Value).ownBlock ∧ some k_ ≠ (s_.2.2 : Value).ownBlock ∧ some k_ ≠ (.slice Ao18 x5_1.length co18 : Value).ownBlock) s_.1 y11) ∧ (Kd.R (Kd.int .u32) 22 w' w.heap.size (fun k_ => some k_ ≠ (s_.1 : Value).ownBlock ∧ some k_ ≠ (s_.2.2 : Value).ownBlock ∧ some k_ ≠ (.slice Ao18 x5_1.length co18 : Value).ownBlock) s_.2.1 y14) ∧ (Kd.R (Kd.int .u32) 22 w' w.heap.size (fun k_ => some k_ ≠ (s_.1 : Value).ownBlock ∧ some k_ ≠ (s_.2.1 : Value).ownBlock ∧ some k_ ≠ (.slice Ao18 x5_1.length co18 : Value).ownBlock) s_.2.2 y17) ∧ (Kd.R (Kd.int .u32) 22 w' w.heap.size (fun k_ => some k_ ≠ (s_.1 : Value).ownBlock ∧ some k_ ≠ (s_.2.1 : Value).ownBlock ∧ some k_ ≠ (s_.2.2 : Value).ownBlock) (.slice Ao18 x5_1.length co18) x5_1) ∧ (w'.heap[gb10]? = some (.cells #[.int .u32 ((rd_T24 l0 xb).f0), .int .u32 ((rd_T24 l0 xb).f1)] 24 (0, 0))) ∧ (Below w.heap.size w w')) ?_ ?_
                        rotate_left
                        · intro hCont
                          refine two_ (i := 4) (j := 10) (Ni := some 33) (Nj := some 39) #[true, true, true, true, true, false, true, true, true, true, false, false, false, false] #[true, true, true, true, false, false, true, true, true, true, true, false, false, false] rfl rfl rfl rfl (two_of HT_.out (by kernel_rfl)) (by decide) (by decide) (fun K hK => ?_) (fun K hK => ?_)
                          · skip
                            refine Kd.R_lit_step (Kd.int .u32) _ 22 ?hg (N := 33) ?hd (xs := ([(Int.tdiv ((rd_T24 l0 xb).f0) 65536) % 4294967296] : List Int)) (inner := [.int .u32 ((Int.tdiv ((rd_T24 l0 xb).f0) 65536) % 4294967296)]) (ok := fun _ => True) (okp := fun _ => True) ?hr ?hp (fun _ hk => hk) trivial (Below.refl _ _) (Nat.le_refl _) (by simp) ?_; (case hd => rfl); (case hg => rfl); (case hr => first | (go_simp; done) | (go_simp; rfl)); (case hp => exact (Reps.one (show Kd.M (Kd.int .u32) _ _ _ ((Int.tdiv ((rd_T24 l0 xb).f0) 65536) % 4294967296) [.int .u32 ((Int.tdiv ((rd_T24 l0 xb).f0) 65536) % 4294967296)] from rfl) (Reps.none _ _)))
                            intro v12 w21 ho22 hb hg_ hnew_
                            clear hg_ hnew_
                            (first | rw [← Ny11.out] at ho22 | (simp only [Int.reduceToNat] at ho22; rw [← Ny11.out] at ho22))
                            have n0_ := Am (Kd.R_elder' (by (with_reducible repeat (first | apply rA | apply rN | apply rD)); exact HO_4.out) (Kd.R_base ho22) hb)
                            have n1_ := Am (Kd.R_elder' (by (with_reducible repeat (first | apply rA | apply rN | apply rD)); exact HO_5.out) (Kd.R_base ho22) hb)
                            have n2_ := Am (Kd.R_lower (Kd.R_new' (Kd.R_new' ho22 (rL (by (with_reducible repeat (first | apply rA | apply rN | apply rD)); exact HO_4.out))) (rL (by (with_reducible repeat (first | apply rA | apply rN | apply rD)); exact HO_5.out))) (below_size (by repeat (first | (with_reducible first | exact HB.out | apply lA | apply lN | apply lD | refine below_set ?_ GE10.out) | exact HB.out))))
                            have n3_ := Am (blk_below (g := gb10) (o := .cells #[.int .u32 ((rd_T24 l0 xb).f0), .int .u32 ((rd_T24 l0 xb).f1)] 24 (0, 0)) (by (with_reducible repeat (first | refine blk_drewN ?_ _ | refine blk_drew ?_ | refine blk_alloc ?_ _)); exact BK10.out) hb)
                            have n4_ := Am (below_step (by repeat (first | (with_reducible first | exact HB.out | apply lA | apply lN | apply lD | refine below_set ?_ GE10.out) | exact HB.out)) hb)
                            clear HO_4
                            clear HO_5
                            clear BK10
                            clear HB
                            have HO_4 := n0_
                            have HO_5 := n1_
                            have HO13 := n2_
                            have BK10 := n3_
                            have HB := n4_
                            clear n0_ n1_ n2_ n3_ n4_
                            clear hb ho22
                            obtain ⟨Ao24, co24, eo24⟩ := Kd.R_slice HO13.out
                            (first | subst eo24 | (injection eo24 with f1_ f2_ f3_; have f4_ := f1_.symm; have f5_ := f3_.symm; clear f1_ f2_ f3_; subst f4_; subst f5_))
                            refine hK.out _ _ ⟨(blk_cell BK10.out 0).trans rfl, (blk_cell BK10.out 1).trans rfl⟩ (fun hHeld => ?_)
                            clear hK K
                            refine norm_ (a' := ?_) ?_ ?_
                            rotate_left
                            · show Act.put _ (some 33) _ = _
                              simp only [Act.put, List.setIfInBounds_toArray, List.set_cons_zero, List.set_cons_succ, i64_w, i32_w, IntKind.wrap_u32]
                              rfl
                            refine two_ (i := 5) (j := 10) (Ni := some 34) (Nj := some 39) #[true, true, true, true, true, true, true, true, true, true, false, false, false, false] #[true, true, true, true, true, false, true, true, true, true, true, false, false, false] rfl rfl rfl rfl (two_of HT_.out (by kernel_rfl)) (by decide) (by decide) (fun K hK => ?_) (fun K hK => ?_)
                            · skip
                              refine Kd.R_append_rows_step (Kd.int .u32) (w0 := w) w.heap.size (by rfl) (.tmp 29) (.tmp 33) 31 22 (.int .u32 0) 4 rfl Try.underlying31 info22 rfl (by decide) (by omega) (.slice Ao17 x4_1.length co17) x4_1 y11 _ _ _ (fun k_ => some k_ ≠ (.slice Ao18 x5_1.length co18 : Value).ownBlock ∧ some k_ ≠ (.slice Ao24 y11.length co24 : Value).ownBlock) (fun _ => False) rfl rfl ?aO ?aR (fun _ _ h => h) (fun _ h => h.elim) ?aF ?aB ?aS ?aL ?_
                              (case aR => repeat (first | exact (Kd.R_reads' HO13.out).2.2 | (with_reducible refine Kd.C_alloc ?_ _) | (with_reducible refine Kd.C_drewN ?_ _) | (with_reducible refine Kd.C_drew ?_)))
                              (case aB => exact (by repeat (first | (with_reducible first | exact HB.out | apply lA | apply lN | apply lD | refine below_set ?_ GE10.out) | exact HB.out)))
                              (case aF => exact (fun k_ hk => ⟨Kd.fresh' (rL (by (with_reducible repeat (first | apply rA | apply rN | apply rD)); exact HO_5.out)) k_ hk, Kd.fresh' (rL (by (with_reducible repeat (first | apply rA | apply rN | apply rD)); exact HO13.out)) k_ hk⟩))
                              (case aO => exact (by (with_reducible repeat (first | apply rA | apply rN | apply rD)); exact HO_4.out))
                              (case aS => exact (below_size (by repeat (first | (with_reducible first | exact HB.out | apply lA | apply lN | apply lD | refine below_set ?_ GE10.out) | exact HB.out))))
                              (case aL => have := LMc9.out; omega)
                              intro v15 w23 ho hb hg hat
                              rw [← Ny14.out] at ho
                              have n0_ := Am (Kd.R_after (ok := (fun k_ => some k_ ≠ (.slice Ao24 y11.length co24 : Value).ownBlock)) (by (with_reducible repeat (first | apply rA | apply rN | apply rD)); exact rM HO_5.out (fun _ hk => ⟨hk.2, hk.1⟩)) hg hat)
                              have n1_ := Am (blk_grown (g := gb10) (o := .cells #[.int .u32 ((rd_T24 l0 xb).f0), .int .u32 ((rd_T24 l0 xb).f1)] 24 (0, 0)) (by (with_reducible repeat (first | refine blk_drewN ?_ _ | refine blk_drew ?_ | refine blk_alloc ?_ _)); exact BK10.out) hg (Kd.R_ne HO_4.out BK10.out (by decide)))
                              have n2_ := Am (Kd.R_after (ok := (fun k_ => some k_ ≠ (.slice Ao18 x5_1.length co18 : Value).ownBlock)) (by (with_reducible repeat (first | apply rA | apply rN | apply rD)); exact rM HO13.out (fun _ hk => ⟨hk.2, hk.1.2⟩)) hg hat)
                              have n3_ := Am (hb)
                              have n4_ := Am (ho)
                              clear HO_5
                              clear BK10
                              clear HO13
                              clear HB
                              clear HO_4
                              have HO_5 := n0_
                              have BK10 := n1_
                              have HO13 := n2_
                              have HB := n3_
                              have HO16 := n4_
                              clear n0_ n1_ n2_ n3_ n4_
                              clear ho hb hg hat
                              refine hK.out _ _ ⟨(blk_cell BK10.out 0).trans rfl, (blk_cell BK10.out 1).trans rfl⟩ (fun hHeld => ?_)
                              clear hK K
                              refine norm_ (a' := ?_) ?_ ?_
                              rotate_left
                              · show Act.put _ (some 34) _ = _
                                simp only [Act.put, List.setIfInBounds_toArray, List.set_cons_zero, List.set_cons_succ, i64_w, i32_w, IntKind.wrap_u32]
                                rfl
                              refine one_ (i := 10) (N := some 39) #[true, true, true, true, true, true, true, true, true, true, true, false, false, false] rfl rfl (one_of HT_.out (by kernel_rfl)) (by decide) (fun K hK => ?_)
                              refine Kd.R_lit_step (Kd.int .u32) _ 22 ?hg (N := 39) ?hd (xs := ([Int.tmod ((rd_T24 l0 xb).f0) 65536] : List Int)) (inner := [.int .u32 (Int.tmod ((rd_T24 l0 xb).f0) 65536)]) (ok := fun _ => True) (okp := fun _ => True) ?hr ?hp (fun _ hk => hk) trivial (Below.refl _ _) (Nat.le_refl _) (by simp) ?_; (case hd => rfl); (case hg => rfl); (case hr => first | (go_simp; done) | (go_simp; rfl)); (case hp => exact (Reps.one (show Kd.M (Kd.int .u32) _ _ _ (Int.tmod ((rd_T24 l0 xb).f0) 65536) [.int .u32 (Int.tmod ((rd_T24 l0 xb).f0) 65536)] from rfl) (Reps.none _ _)))
                              intro v18 w25 ho26 hb hg_ hnew_
                              clear hg_ hnew_
                              (first | rw [← Ny17.out] at ho26 | (simp only [Int.reduceToNat] at ho26; rw [← Ny17.out] at ho26))
                              have n0_ := Am (Kd.R_elder' (by (with_reducible repeat (first | apply rA | apply rN | apply rD)); exact HO_5.out) (Kd.R_base ho26) hb)
                              have n1_ := Am (Kd.R_elder' (by (with_reducible repeat (first | apply rA | apply rN | apply rD)); exact HO13.out) (Kd.R_base ho26) hb)
                              have n2_ := Am (Kd.R_elder' (by (with_reducible repeat (first | apply rA | apply rN | apply rD)); exact HO16.out) (Kd.R_base ho26) hb)
                              have n3_ := Am (Kd.R_lower (Kd.R_new' (Kd.R_new' (Kd.R_new' ho26 (rL (by (with_reducible repeat (first | apply rA | apply rN | apply rD)); exact HO_5.out))) (rL (by (with_reducible repeat (first | apply rA | apply rN | apply rD)); exact HO13.out))) (rL (by (with_reducible repeat (first | apply rA | apply rN | apply rD)); exact HO16.out))) (below_size (by repeat (first | (with_reducible first | exact HB.out | apply lA | apply lN | apply lD | refine below_set ?_ GE10.out) | exact HB.out))))
                              have n4_ := Am (blk_below (g := gb10) (o := .cells #[.int .u32 ((rd_T24 l0 xb).f0), .int .u32 ((rd_T24 l0 xb).f1)] 24 (0, 0)) (by (with_reducible repeat (first | refine blk_drewN ?_ _ | refine blk_drew ?_ | refine blk_alloc ?_ _)); exact BK10.out) hb)
                              have n5_ := Am (below_step (by repeat (first | (with_reducible first | exact HB.out | apply lA | apply lN | apply lD | refine below_set ?_ GE10.out) | exact HB.out)) hb)
                              clear HO_5
                              clear HO13
                              clear HO16
                              clear BK10
                              clear HB
                              have HO_5 := n0_
                              have HO13 := n1_
                              have HO16 := n2_
                              have HO19 := n3_
                              have BK10 := n4_
                              have HB := n5_
                              clear n0_ n1_ n2_ n3_ n4_ n5_
                              clear hb ho26
                              refine hK.out _ _ ⟨(blk_cell BK10.out 0).trans rfl, (blk_cell BK10.out 1).trans rfl⟩ (fun hHeld => ?_)
                              clear hK K
                              refine norm_ (a' := ?_) ?_ ?_
                              rotate_left
                              · show Act.put _ (some 39) _ = _
                                simp only [Act.put, List.setIfInBounds_toArray, List.set_cons_zero, List.set_cons_succ, i64_w, i32_w, IntKind.wrap_u32]
                                rfl
                              exact norm_ (by simp only [putAll, Act.put, List.setIfInBounds_toArray, List.set_cons_zero, List.set_cons_succ]) (hCont (.slice Ao24 y11.length co24, v15, v18) _ ⟨hHeld, (by (with_reducible repeat (first | apply rA | apply rN | apply rD)); exact rM HO13.out (fun _ hk => ⟨hk.1.2, ⟨hk.2, hk.1.1⟩⟩)), (by (with_reducible repeat (first | apply rA | apply rN | apply rD)); exact rM HO16.out (fun _ hk => ⟨hk.1.2, ⟨hk.2, hk.1.1⟩⟩)), (by (with_reducible repeat (first | apply rA | apply rN | apply rD)); exact rM HO19.out (fun _ hk => ⟨hk.1.2, ⟨hk.2, hk.1.1.2⟩⟩)), (by (with_reducible repeat (first | apply rA | apply rN | apply rD)); exact rM HO_5.out (fun _ hk => ⟨hk.1.1, ⟨hk.1.2, hk.2⟩⟩)), (by (with_reducible repeat (first | refine blk_drewN ?_ _ | refine blk_drew ?_ | refine blk_alloc ?_ _)); exact BK10.out), (by repeat (first | (with_reducible first | exact HB.out | apply lA | apply lN | apply lD | refine below_set ?_ GE10.out) | exact HB.out))⟩)
                            · skip
                              refine Kd.R_lit_step (Kd.int .u32) _ 22 ?hg (N := 39) ?hd (xs := ([Int.tmod ((rd_T24 l0 xb).f0) 65536] : List Int)) (inner := [.int .u32 (Int.tmod ((rd_T24 l0 xb).f0) 65536)]) (ok := fun _ => True) (okp := fun _ => True) ?hr ?hp (fun _ hk => hk) trivial (Below.refl _ _) (Nat.le_refl _) (by simp) ?_; (case hd => rfl); (case hg => rfl); (case hr => first | (go_simp; done) | (go_simp; rfl)); (case hp => exact (Reps.one (show Kd.M (Kd.int .u32) _ _ _ (Int.tmod ((rd_T24 l0 xb).f0) 65536) [.int .u32 (Int.tmod ((rd_T24 l0 xb).f0) 65536)] from rfl) (Reps.none _ _)))
                              intro v18 w23 ho24 hb hg_ hnew_
                              clear hg_ hnew_
                              (first | rw [← Ny17.out] at ho24 | (simp only [Int.reduceToNat] at ho24; rw [← Ny17.out] at ho24))
                              have n0_ := Am (Kd.R_elder' (by (with_reducible repeat (first | apply rA | apply rN | apply rD)); exact HO_4.out) (Kd.R_base ho24) hb)
                              have n1_ := Am (Kd.R_elder' (by (with_reducible repeat (first | apply rA | apply rN | apply rD)); exact HO_5.out) (Kd.R_base ho24) hb)
                              have n2_ := Am (Kd.R_elder' (by (with_reducible repeat (first | apply rA | apply rN | apply rD)); exact HO13.out) (Kd.R_base ho24) hb)
                              have n3_ := Am (Kd.R_lower (Kd.R_new' (Kd.R_new' (Kd.R_new' ho24 (rL (by (with_reducible repeat (first | apply rA | apply rN | apply rD)); exact HO_4.out))) (rL (by (with_reducible repeat (first | apply rA | apply rN | apply rD)); exact HO_5.out))) (rL (by (with_reducible repeat (first | apply rA | apply rN | apply rD)); exact HO13.out))) (below_size (by repeat (first | (with_reducible first | exact HB.out | apply lA | apply lN | apply lD | refine below_set ?_ GE10.out) | exact HB.out))))
                              have n4_ := Am (blk_below (g := gb10) (o := .cells #[.int .u32 ((rd_T24 l0 xb).f0), .int .u32 ((rd_T24 l0 xb).f1)] 24 (0, 0)) (by (with_reducible repeat (first | refine blk_drewN ?_ _ | refine blk_drew ?_ | refine blk_alloc ?_ _)); exact BK10.out) hb)
                              have n5_ := Am (below_step (by repeat (first | (with_reducible first | exact HB.out | apply lA | apply lN | apply lD | refine below_set ?_ GE10.out) | exact HB.out)) hb)
                              clear HO_4
                              clear HO_5
                              clear HO13
                              clear BK10
                              clear HB
                              have HO_4 := n0_
                              have HO_5 := n1_
                              have HO13 := n2_
                              have HO19 := n3_
                              have BK10 := n4_
                              have HB := n5_
                              clear n0_ n1_ n2_ n3_ n4_ n5_
                              clear hb ho24
                              obtain ⟨Ao26, co26, eo26⟩ := Kd.R_slice HO13.out
                              (first | subst eo26 | (injection eo26 with f1_ f2_ f3_; have f4_ := f1_.symm; have f5_ := f3_.symm; clear f1_ f2_ f3_; subst f4_; subst f5_))
                              refine hK.out _ _ ⟨(blk_cell BK10.out 0).trans rfl, (blk_cell BK10.out 1).trans rfl⟩ (fun hHeld => ?_)
                              clear hK K
                              refine norm_ (a' := ?_) ?_ ?_
                              rotate_left
                              · show Act.put _ (some 39) _ = _
                                simp only [Act.put, List.setIfInBounds_toArray, List.set_cons_zero, List.set_cons_succ, i64_w, i32_w, IntKind.wrap_u32]
                                rfl
                              refine one_ (i := 5) (N := some 34) #[true, true, true, true, true, true, true, true, true, true, true, false, false, false] rfl rfl (one_of HT_.out (by kernel_rfl)) (by decide) (fun K hK => ?_)
                              refine Kd.R_append_rows_step (Kd.int .u32) (w0 := w) w.heap.size (by rfl) (.tmp 29) (.tmp 33) 31 22 (.int .u32 0) 4 rfl Try.underlying31 info22 rfl (by decide) (by omega) (.slice Ao17 x4_1.length co17) x4_1 y11 _ _ _ (fun k_ => some k_ ≠ (.slice Ao18 x5_1.length co18 : Value).ownBlock ∧ some k_ ≠ (.slice Ao26 y11.length co26 : Value).ownBlock ∧ some k_ ≠ (v18 : Value).ownBlock) (fun _ => False) rfl rfl ?aO ?aR (fun _ _ h => h) (fun _ h => h.elim) ?aF ?aB ?aS ?aL ?_
                              (case aR => repeat (first | exact (Kd.R_reads' HO13.out).2.2 | (with_reducible refine Kd.C_alloc ?_ _) | (with_reducible refine Kd.C_drewN ?_ _) | (with_reducible refine Kd.C_drew ?_)))
                              (case aB => exact (by repeat (first | (with_reducible first | exact HB.out | apply lA | apply lN | apply lD | refine below_set ?_ GE10.out) | exact HB.out)))
                              (case aF => exact (fun k_ hk => ⟨Kd.fresh' (rL (by (with_reducible repeat (first | apply rA | apply rN | apply rD)); exact HO_5.out)) k_ hk, Kd.fresh' (rL (by (with_reducible repeat (first | apply rA | apply rN | apply rD)); exact HO13.out)) k_ hk, Kd.fresh' (rL (by (with_reducible repeat (first | apply rA | apply rN | apply rD)); exact HO19.out)) k_ hk⟩))
                              (case aO => exact (by (with_reducible repeat (first | apply rA | apply rN | apply rD)); exact rM HO_4.out (fun _ hk => ⟨hk.1.1, ⟨hk.1.2, hk.2⟩⟩)))
                              (case aS => exact (below_size (by repeat (first | (with_reducible first | exact HB.out | apply lA | apply lN | apply lD | refine below_set ?_ GE10.out) | exact HB.out))))
                              (case aL => have := LMc9.out; omega)
                              intro v15 w25 ho hb hg hat
                              rw [← Ny14.out] at ho
                              have n0_ := Am (Kd.R_after (ok := (fun k_ => some k_ ≠ (.slice Ao26 y11.length co26 : Value).ownBlock ∧ some k_ ≠ (v18 : Value).ownBlock)) (by (with_reducible repeat (first | apply rA | apply rN | apply rD)); exact rM HO_5.out (fun _ hk => ⟨⟨hk.1.2, hk.2⟩, hk.1.1⟩)) hg hat)
                              have n1_ := Am (blk_grown (g := gb10) (o := .cells #[.int .u32 ((rd_T24 l0 xb).f0), .int .u32 ((rd_T24 l0 xb).f1)] 24 (0, 0)) (by (with_reducible repeat (first | refine blk_drewN ?_ _ | refine blk_drew ?_ | refine blk_alloc ?_ _)); exact BK10.out) hg (Kd.R_ne HO_4.out BK10.out (by decide)))
                              have n2_ := Am (Kd.R_after (ok := (fun k_ => some k_ ≠ (.slice Ao18 x5_1.length co18 : Value).ownBlock ∧ some k_ ≠ (v18 : Value).ownBlock)) (by (with_reducible repeat (first | apply rA | apply rN | apply rD)); exact rM HO13.out (fun _ hk => ⟨⟨hk.1.2, hk.2⟩, hk.1.1.2⟩)) hg hat)
                              have n3_ := Am (Kd.R_after (ok := (fun k_ => some k_ ≠ (.slice Ao18 x5_1.length co18 : Value).ownBlock ∧ some k_ ≠ (.slice Ao26 y11.length co26 : Value).ownBlock)) (by (with_reducible repeat (first | apply rA | apply rN | apply rD)); exact rM HO19.out (fun _ hk => ⟨⟨hk.1.2, hk.2⟩, hk.1.1.2⟩)) hg hat)
                              have n4_ := Am (hb)
                              have n5_ := Am (ho)
                              clear HO_5
                              clear BK10
                              clear HO13
                              clear HO19
                              clear HB
                              clear HO_4
                              have HO_5 := n0_
                              have BK10 := n1_
                              have HO13 := n2_
                              have HO19 := n3_
                              have HB := n4_
                              have HO16 := n5_
                              clear n0_ n1_ n2_ n3_ n4_ n5_
                              clear ho hb hg hat
                              refine hK.out _ _ ⟨(blk_cell BK10.out 0).trans rfl, (blk_cell BK10.out 1).trans rfl⟩ (fun hHeld => ?_)
                              clear hK K
                              refine norm_ (a' := ?_) ?_ ?_
                              rotate_left
                              · show Act.put _ (some 34) _ = _
                                simp only [Act.put, List.setIfInBounds_toArray, List.set_cons_zero, List.set_cons_succ, i64_w, i32_w, IntKind.wrap_u32]
                                rfl
                              exact norm_ (by simp only [putAll, Act.put, List.setIfInBounds_toArray, List.set_cons_zero, List.set_cons_succ]) (hCont (.slice Ao26 y11.length co26, v15, v18) _ ⟨hHeld, (by (with_reducible repeat (first | apply rA | apply rN | apply rD)); exact rM HO13.out (fun _ hk => ⟨hk.2, ⟨hk.1.2, hk.1.1⟩⟩)), (by (with_reducible repeat (first | apply rA | apply rN | apply rD)); exact rM HO16.out (fun _ hk => ⟨hk.2.1, ⟨hk.2.2, hk.1⟩⟩)), (by (with_reducible repeat (first | apply rA | apply rN | apply rD)); exact rM HO19.out (fun _ hk => ⟨hk.1.2, ⟨hk.2, hk.1.1⟩⟩)), (by (with_reducible repeat (first | apply rA | apply rN | apply rD)); exact rM HO_5.out (fun _ hk => ⟨hk.1.1, ⟨hk.2, hk.1.2⟩⟩)), (by (with_reducible repeat (first | refine blk_drewN ?_ _ | refine blk_drew ?_ | refine blk_alloc ?_ _)); exact BK10.out), (by repeat (first | (with_reducible first | exact HB.out | apply lA | apply lN | apply lD | refine below_set ?_ GE10.out) | exact HB.out))⟩)
                          · skip
                            refine Kd.R_lit_step (Kd.int .u32) _ 22 ?hg (N := 39) ?hd (xs := ([Int.tmod ((rd_T24 l0 xb).f0) 65536] : List Int)) (inner := [.int .u32 (Int.tmod ((rd_T24 l0 xb).f0) 65536)]) (ok := fun _ => True) (okp := fun _ => True) ?hr ?hp (fun _ hk => hk) trivial (Below.refl _ _) (Nat.le_refl _) (by simp) ?_; (case hd => rfl); (case hg => rfl); (case hr => first | (go_simp; done) | (go_simp; rfl)); (case hp => exact (Reps.one (show Kd.M (Kd.int .u32) _ _ _ (Int.tmod ((rd_T24 l0 xb).f0) 65536) [.int .u32 (Int.tmod ((rd_T24 l0 xb).f0) 65536)] from rfl) (Reps.none _ _)))
                            intro v18 w21 ho22 hb hg_ hnew_
                            clear hg_ hnew_
                            (first | rw [← Ny17.out] at ho22 | (simp only [Int.reduceToNat] at ho22; rw [← Ny17.out] at ho22))
                            have n0_ := Am (Kd.R_elder' (by (with_reducible repeat (first | apply rA | apply rN | apply rD)); exact HO_4.out) (Kd.R_base ho22) hb)
                            have n1_ := Am (Kd.R_elder' (by (with_reducible repeat (first | apply rA | apply rN | apply rD)); exact HO_5.out) (Kd.R_base ho22) hb)
                            have n2_ := Am (Kd.R_lower (Kd.R_new' (Kd.R_new' ho22 (rL (by (with_reducible repeat (first | apply rA | apply rN | apply rD)); exact HO_4.out))) (rL (by (with_reducible repeat (first | apply rA | apply rN | apply rD)); exact HO_5.out))) (below_size (by repeat (first | (with_reducible first | exact HB.out | apply lA | apply lN | apply lD | refine below_set ?_ GE10.out) | exact HB.out))))
                            have n3_ := Am (blk_below (g := gb10) (o := .cells #[.int .u32 ((rd_T24 l0 xb).f0), .int .u32 ((rd_T24 l0 xb).f1)] 24 (0, 0)) (by (with_reducible repeat (first | refine blk_drewN ?_ _ | refine blk_drew ?_ | refine blk_alloc ?_ _)); exact BK10.out) hb)
                            have n4_ := Am (below_step (by repeat (first | (with_reducible first | exact HB.out | apply lA | apply lN | apply lD | refine below_set ?_ GE10.out) | exact HB.out)) hb)
                            clear HO_4
                            clear HO_5
                            clear BK10
                            clear HB
                            have HO_4 := n0_
                            have HO_5 := n1_
                            have HO19 := n2_
                            have BK10 := n3_
                            have HB := n4_
                            clear n0_ n1_ n2_ n3_ n4_
                            clear hb ho22
                            refine hK.out _ _ ⟨(blk_cell BK10.out 0).trans rfl, (blk_cell BK10.out 1).trans rfl⟩ (fun hHeld => ?_)
                            clear hK K
                            refine norm_ (a' := ?_) ?_ ?_
                            rotate_left
                            · show Act.put _ (some 39) _ = _
                              simp only [Act.put, List.setIfInBounds_toArray, List.set_cons_zero, List.set_cons_succ, i64_w, i32_w, IntKind.wrap_u32]
                              rfl
                            refine one_ (i := 4) (N := some 33) #[true, true, true, true, true, false, true, true, true, true, true, false, false, false] rfl rfl (one_of HT_.out (by kernel_rfl)) (by decide) (fun K hK => ?_)
                            refine Kd.R_lit_step (Kd.int .u32) _ 22 ?hg (N := 33) ?hd (xs := ([(Int.tdiv ((rd_T24 l0 xb).f0) 65536) % 4294967296] : List Int)) (inner := [.int .u32 ((Int.tdiv ((rd_T24 l0 xb).f0) 65536) % 4294967296)]) (ok := fun _ => True) (okp := fun _ => True) ?hr ?hp (fun _ hk => hk) trivial (Below.refl _ _) (Nat.le_refl _) (by simp) ?_; (case hd => rfl); (case hg => rfl); (case hr => first | (go_simp; done) | (go_simp; rfl)); (case hp => exact (Reps.one (show Kd.M (Kd.int .u32) _ _ _ ((Int.tdiv ((rd_T24 l0 xb).f0) 65536) % 4294967296) [.int .u32 ((Int.tdiv ((rd_T24 l0 xb).f0) 65536) % 4294967296)] from rfl) (Reps.none _ _)))
                            intro v12 w23 ho24 hb hg_ hnew_
                            clear hg_ hnew_
                            (first | rw [← Ny11.out] at ho24 | (simp only [Int.reduceToNat] at ho24; rw [← Ny11.out] at ho24))
                            have n0_ := Am (Kd.R_elder' (by (with_reducible repeat (first | apply rA | apply rN | apply rD)); exact HO_4.out) (Kd.R_base ho24) hb)
                            have n1_ := Am (Kd.R_elder' (by (with_reducible repeat (first | apply rA | apply rN | apply rD)); exact HO_5.out) (Kd.R_base ho24) hb)
                            have n2_ := Am (Kd.R_elder' (by (with_reducible repeat (first | apply rA | apply rN | apply rD)); exact HO19.out) (Kd.R_base ho24) hb)
                            have n3_ := Am (Kd.R_lower (Kd.R_new' (Kd.R_new' (Kd.R_new' ho24 (rL (by (with_reducible repeat (first | apply rA | apply rN | apply rD)); exact HO_4.out))) (rL (by (with_reducible repeat (first | apply rA | apply rN | apply rD)); exact HO_5.out))) (rL (by (with_reducible repeat (first | apply rA | apply rN | apply rD)); exact HO19.out))) (below_size (by repeat (first | (with_reducible first | exact HB.out | apply lA | apply lN | apply lD | refine below_set ?_ GE10.out) | exact HB.out))))
                            have n4_ := Am (blk_below (g := gb10) (o := .cells #[.int .u32 ((rd_T24 l0 xb).f0), .int .u32 ((rd_T24 l0 xb).f1)] 24 (0, 0)) (by (with_reducible repeat (first | refine blk_drewN ?_ _ | refine blk_drew ?_ | refine blk_alloc ?_ _)); exact BK10.out) hb)
                            have n5_ := Am (below_step (by repeat (first | (with_reducible first | exact HB.out | apply lA | apply lN | apply lD | refine below_set ?_ GE10.out) | exact HB.out)) hb)
                            clear HO_4
                            clear HO_5
                            clear HO19
                            clear BK10
                            clear HB
                            have HO_4 := n0_
                            have HO_5 := n1_
                            have HO19 := n2_
                            have HO13 := n3_
                            have BK10 := n4_
                            have HB := n5_
                            clear n0_ n1_ n2_ n3_ n4_ n5_
                            clear hb ho24
                            obtain ⟨Ao26, co26, eo26⟩ := Kd.R_slice HO13.out
                            (first | subst eo26 | (injection eo26 with f1_ f2_ f3_; have f4_ := f1_.symm; have f5_ := f3_.symm; clear f1_ f2_ f3_; subst f4_; subst f5_))
                            refine hK.out _ _ ⟨(blk_cell BK10.out 0).trans rfl, (blk_cell BK10.out 1).trans rfl⟩ (fun hHeld => ?_)
                            clear hK K
                            refine norm_ (a' := ?_) ?_ ?_
                            rotate_left
                            · show Act.put _ (some 33) _ = _
                              simp only [Act.put, List.setIfInBounds_toArray, List.set_cons_zero, List.set_cons_succ, i64_w, i32_w, IntKind.wrap_u32]
                              rfl
                            refine one_ (i := 5) (N := some 34) #[true, true, true, true, true, true, true, true, true, true, true, false, false, false] rfl rfl (one_of HT_.out (by kernel_rfl)) (by decide) (fun K hK => ?_)
                            refine Kd.R_append_rows_step (Kd.int .u32) (w0 := w) w.heap.size (by rfl) (.tmp 29) (.tmp 33) 31 22 (.int .u32 0) 4 rfl Try.underlying31 info22 rfl (by decide) (by omega) (.slice Ao17 x4_1.length co17) x4_1 y11 _ _ _ (fun k_ => some k_ ≠ (.slice Ao18 x5_1.length co18 : Value).ownBlock ∧ some k_ ≠ (v18 : Value).ownBlock ∧ some k_ ≠ (.slice Ao26 y11.length co26 : Value).ownBlock) (fun _ => False) rfl rfl ?aO ?aR (fun _ _ h => h) (fun _ h => h.elim) ?aF ?aB ?aS ?aL ?_
                            (case aR => repeat (first | exact (Kd.R_reads' HO13.out).2.2 | (with_reducible refine Kd.C_alloc ?_ _) | (with_reducible refine Kd.C_drewN ?_ _) | (with_reducible refine Kd.C_drew ?_)))
                            (case aB => exact (by repeat (first | (with_reducible first | exact HB.out | apply lA | apply lN | apply lD | refine below_set ?_ GE10.out) | exact HB.out)))
                            (case aF => exact (fun k_ hk => ⟨Kd.fresh' (rL (by (with_reducible repeat (first | apply rA | apply rN | apply rD)); exact HO_5.out)) k_ hk, Kd.fresh' (rL (by (with_reducible repeat (first | apply rA | apply rN | apply rD)); exact HO19.out)) k_ hk, Kd.fresh' (rL (by (with_reducible repeat (first | apply rA | apply rN | apply rD)); exact HO13.out)) k_ hk⟩))
                            (case aO => exact (by (with_reducible repeat (first | apply rA | apply rN | apply rD)); exact rM HO_4.out (fun _ hk => ⟨hk.1.1, ⟨hk.1.2, hk.2⟩⟩)))
                            (case aS => exact (below_size (by repeat (first | (with_reducible first | exact HB.out | apply lA | apply lN | apply lD | refine below_set ?_ GE10.out) | exact HB.out))))
                            (case aL => have := LMc9.out; omega)
                            intro v15 w25 ho hb hg hat
                            rw [← Ny14.out] at ho
                            have n0_ := Am (Kd.R_after (ok := (fun k_ => some k_ ≠ (v18 : Value).ownBlock ∧ some k_ ≠ (.slice Ao26 y11.length co26 : Value).ownBlock)) (by (with_reducible repeat (first | apply rA | apply rN | apply rD)); exact rM HO_5.out (fun _ hk => ⟨⟨hk.1.2, hk.2⟩, hk.1.1⟩)) hg hat)
                            have n1_ := Am (blk_grown (g := gb10) (o := .cells #[.int .u32 ((rd_T24 l0 xb).f0), .int .u32 ((rd_T24 l0 xb).f1)] 24 (0, 0)) (by (with_reducible repeat (first | refine blk_drewN ?_ _ | refine blk_drew ?_ | refine blk_alloc ?_ _)); exact BK10.out) hg (Kd.R_ne HO_4.out BK10.out (by decide)))
                            have n2_ := Am (Kd.R_after (ok := (fun k_ => some k_ ≠ (.slice Ao18 x5_1.length co18 : Value).ownBlock ∧ some k_ ≠ (.slice Ao26 y11.length co26 : Value).ownBlock)) (by (with_reducible repeat (first | apply rA | apply rN | apply rD)); exact rM HO19.out (fun _ hk => ⟨⟨hk.1.2, hk.2⟩, hk.1.1.2⟩)) hg hat)
                            have n3_ := Am (Kd.R_after (ok := (fun k_ => some k_ ≠ (.slice Ao18 x5_1.length co18 : Value).ownBlock ∧ some k_ ≠ (v18 : Value).ownBlock)) (by (with_reducible repeat (first | apply rA | apply rN | apply rD)); exact rM HO13.out (fun _ hk => ⟨⟨hk.1.2, hk.2⟩, hk.1.1.2⟩)) hg hat)
                            have n4_ := Am (hb)
                            have n5_ := Am (ho)
                            clear HO_5
                            clear BK10
                            clear HO19
                            clear HO13
                            clear HB
                            clear HO_4
                            have HO_5 := n0_
                            have BK10 := n1_
                            have HO19 := n2_
                            have HO13 := n3_
                            have HB := n4_
                            have HO16 := n5_
                            clear n0_ n1_ n2_ n3_ n4_ n5_
                            clear ho hb hg hat
                            refine hK.out _ _ ⟨(blk_cell BK10.out 0).trans rfl, (blk_cell BK10.out 1).trans rfl⟩ (fun hHeld => ?_)
                            clear hK K
                            refine norm_ (a' := ?_) ?_ ?_
                            rotate_left
                            · show Act.put _ (some 34) _ = _
                              simp only [Act.put, List.setIfInBounds_toArray, List.set_cons_zero, List.set_cons_succ, i64_w, i32_w, IntKind.wrap_u32]
                              rfl
                            exact norm_ (by simp only [putAll, Act.put, List.setIfInBounds_toArray, List.set_cons_zero, List.set_cons_succ]) (hCont (.slice Ao26 y11.length co26, v15, v18) _ ⟨hHeld, (by (with_reducible repeat (first | apply rA | apply rN | apply rD)); exact rM HO13.out (fun _ hk => ⟨hk.2, ⟨hk.1.2, hk.1.1⟩⟩)), (by (with_reducible repeat (first | apply rA | apply rN | apply rD)); exact rM HO16.out (fun _ hk => ⟨hk.2.2, ⟨hk.2.1, hk.1⟩⟩)), (by (with_reducible repeat (first | apply rA | apply rN | apply rD)); exact rM HO19.out (fun _ hk => ⟨hk.1.2, ⟨hk.2, hk.1.1⟩⟩)), (by (with_reducible repeat (first | apply rA | apply rN | apply rD)); exact rM HO_5.out (fun _ hk => ⟨hk.1.2, ⟨hk.2, hk.1.1⟩⟩)), (by (with_reducible repeat (first | refine blk_drewN ?_ _ | refine blk_drew ?_ | refine blk_alloc ?_ _)); exact BK10.out), (by repeat (first | (with_reducible first | exact HB.out | apply lA | apply lN | apply lD | refine below_set ?_ GE10.out) | exact HB.out))⟩)
                        rintro ⟨v12, v15, v18⟩ w27 ⟨hS_, h0_, h1_, h2_, h3_, h4_, h5_⟩
                        have n0_ : Aside0 (Kd.R (Kd.int .u32) 22 w27 w.heap.size (fun k_ => some k_ ≠ (v15 : Value).ownBlock ∧ some k_ ≠ (v18 : Value).ownBlock ∧ some k_ ≠ (.slice Ao18 x5_1.length co18 : Value).ownBlock) v12 y11) := ⟨h0_⟩
                        have n1_ : Aside0 (Kd.R (Kd.int .u32) 22 w27 w.heap.size (fun k_ => some k_ ≠ (v12 : Value).ownBlock ∧ some k_ ≠ (v18 : Value).ownBlock ∧ some k_ ≠ (.slice Ao18 x5_1.length co18 : Value).ownBlock) v15 y14) := ⟨h1_⟩
                        have n2_ : Aside0 (Kd.R (Kd.int .u32) 22 w27 w.heap.size (fun k_ => some k_ ≠ (v12 : Value).ownBlock ∧ some k_ ≠ (v15 : Value).ownBlock ∧ some k_ ≠ (.slice Ao18 x5_1.length co18 : Value).ownBlock) v18 y17) := ⟨h2_⟩
                        have n3_ : Aside0 (Kd.R (Kd.int .u32) 22 w27 w.heap.size (fun k_ => some k_ ≠ (v12 : Value).ownBlock ∧ some k_ ≠ (v15 : Value).ownBlock ∧ some k_ ≠ (v18 : Value).ownBlock) (.slice Ao18 x5_1.length co18) x5_1) := ⟨h3_⟩
                        have n4_ : Aside0 (w27.heap[gb10]? = some (.cells #[.int .u32 ((rd_T24 l0 xb).f0), .int .u32 ((rd_T24 l0 xb).f1)] 24 (0, 0))) := ⟨h4_⟩
                        have n5_ : Aside0 (Below w.heap.size w w27) := ⟨h5_⟩
                        clear HO_4
                        clear HO_5
                        clear BK10
                        clear HB
                        clear h0_ h1_ h2_ h3_ h4_ h5_
                        have HO13 := n0_
                        have HO16 := n1_
                        have HO19 := n2_
                        have HO_5 := n3_
                        have BK10 := n4_
                        have HB := n5_
                        clear n0_ n1_ n2_ n3_ n4_ n5_
                        have hHeld : w27.cell? ⟨gb10, 0, none⟩ = some (.int .u32 ((rd_T24 l0 xb).f0)) ∧ w27.cell? ⟨gb10, 1, none⟩ = some (.int .u32 ((rd_T24 l0 xb).f1)) := hS_
                        obtain ⟨Ao29, co29, eo29⟩ := Kd.R_slice HO19.out
                        (first | subst eo29 | (injection eo29 with f1_ f2_ f3_; have f4_ := f1_.symm; have f5_ := f3_.symm; clear f1_ f2_ f3_; subst f4_; subst f5_))
                        refine norm_ (a' := ?_) ?_ ?_
                        rotate_left
                        · simp only [putAll, Act.put, List.setIfInBounds_toArray, List.set_cons_zero, List.set_cons_succ]
                          rfl
                        refine one_ (i := 11) (N := some 40) #[true, true, true, true, true, true, true, true, true, true, true, true, false, false] rfl rfl (one_of HT_.out (by kernel_rfl)) (by decide) (fun K hK => ?_)
                        refine Kd.R_append_rows_step (Kd.int .u32) (w0 := w) w.heap.size (by rfl) (.tmp 35) (.tmp 39) 31 22 (.int .u32 0) 4 rfl Try.underlying31 info22 rfl (by decide) (by omega) (.slice Ao18 x5_1.length co18) x5_1 y17 _ _ _ (fun k_ => some k_ ≠ (v12 : Value).ownBlock ∧ some k_ ≠ (v15 : Value).ownBlock ∧ some k_ ≠ (.slice Ao29 y17.length co29 : Value).ownBlock) (fun _ => False) rfl rfl ?aO ?aR (fun _ _ h => h) (fun _ h => h.elim) ?aF ?aB ?aS ?aL ?_
                        (case aR => repeat (first | exact (Kd.R_reads' HO19.out).2.2 | (with_reducible refine Kd.C_alloc ?_ _) | (with_reducible refine Kd.C_drewN ?_ _) | (with_reducible refine Kd.C_drew ?_)))
                        (case aB => exact (by repeat (first | (with_reducible first | exact HB.out | apply lA | apply lN | apply lD | refine below_set ?_ GE10.out) | exact HB.out)))
                        (case aF => exact (fun k_ hk => ⟨Kd.fresh' (rL (by (with_reducible repeat (first | apply rA | apply rN | apply rD)); exact HO13.out)) k_ hk, Kd.fresh' (rL (by (with_reducible repeat (first | apply rA | apply rN | apply rD)); exact HO16.out)) k_ hk, Kd.fresh' (rL (by (with_reducible repeat (first | apply rA | apply rN | apply rD)); exact HO19.out)) k_ hk⟩))
                        (case aO => exact (by (with_reducible repeat (first | apply rA | apply rN | apply rD)); exact HO_5.out))
                        (case aS => exact (below_size (by repeat (first | (with_reducible first | exact HB.out | apply lA | apply lN | apply lD | refine below_set ?_ GE10.out) | exact HB.out))))
                        (case aL => have := LMc10.out; omega)
                        intro v21 w28 ho hb hg hat
                        rw [← Ny20.out] at ho
                        have n0_ := Am (blk_grown (g := gb10) (o := .cells #[.int .u32 ((rd_T24 l0 xb).f0), .int .u32 ((rd_T24 l0 xb).f1)] 24 (0, 0)) (by (with_reducible repeat (first | refine blk_drewN ?_ _ | refine blk_drew ?_ | refine blk_alloc ?_ _)); exact BK10.out) hg (Kd.R_ne HO_5.out BK10.out (by decide)))
                        have n1_ := Am (Kd.R_after (ok := (fun k_ => some k_ ≠ (v15 : Value).ownBlock ∧ some k_ ≠ (.slice Ao29 y17.length co29 : Value).ownBlock)) (by (with_reducible repeat (first | apply rA | apply rN | apply rD)); exact rM HO13.out (fun _ hk => ⟨⟨hk.1, hk.2.1⟩, hk.2.2⟩)) hg hat)
                        have n2_ := Am (Kd.R_after (ok := (fun k_ => some k_ ≠ (v12 : Value).ownBlock ∧ some k_ ≠ (.slice Ao29 y17.length co29 : Value).ownBlock)) (by (with_reducible repeat (first | apply rA | apply rN | apply rD)); exact rM HO16.out (fun _ hk => ⟨⟨hk.1, hk.2.1⟩, hk.2.2⟩)) hg hat)
                        have n3_ := Am (Kd.R_after (ok := (fun k_ => some k_ ≠ (v12 : Value).ownBlock ∧ some k_ ≠ (v15 : Value).ownBlock)) (by (with_reducible repeat (first | apply rA | apply rN | apply rD)); exact rM HO19.out (fun _ hk => ⟨⟨hk.1, hk.2.1⟩, hk.2.2⟩)) hg hat)
                        have n4_ := Am (hb)
                        have n5_ := Am (ho)
                        clear BK10
                        clear HO13
                        clear HO16
                        clear HO19
                        clear HB
                        clear HO_5
                        have BK10 := n0_
                        have HO13 := n1_
                        have HO16 := n2_
                        have HO19 := n3_
                        have HB := n4_
                        have HO22 := n5_
                        clear n0_ n1_ n2_ n3_ n4_ n5_
                        clear ho hb hg hat
                        refine hK.out _ _ ⟨(blk_cell BK10.out 0).trans rfl, (blk_cell BK10.out 1).trans rfl⟩ (fun hHeld => ?_)
                        clear hK K
                        refine norm_ (a' := ?_) ?_ ?_
                        rotate_left
                        · show Act.put _ (some 40) _ = _
                          simp only [Act.put, List.setIfInBounds_toArray, List.set_cons_zero, List.set_cons_succ, i64_w, i32_w, IntKind.wrap_u32]
                          rfl
                        refine pure_ (i := 12) (N := some 4) (v := ?_) (a' := ?_) #[true, true, true, true, true, true, true, true, true, true, true, true, true, false] rfl rfl (any_of HT_.out (by kernel_rfl)) (fun _ _ _ h => h) (Or.inl ⟨by rfl, ?_⟩) ?_ ?_
                        rotate_left
                        · intro w'
                          go_simp
                          with_reducible rfl
                        rotate_left
                        · simp only [Act.put, List.setIfInBounds_toArray, List.set_cons_zero, List.set_cons_succ, i64_w, i32_w, IntKind.wrap_u32]
                          rfl
                        refine pure_ (i := 13) (N := some 5) (v := ?_) (a' := ?_) #[true, true, true, true, true, true, true, true, true, true, true, true, true, true] rfl rfl (any_of HT_.out (by kernel_rfl)) (fun _ _ _ h => h) (Or.inl ⟨by rfl, ?_⟩) ?_ ?_
                        rotate_left
                        · intro w'
                          go_simp
                          with_reducible rfl
                        rotate_left
                        · simp only [Act.put, List.setIfInBounds_toArray, List.set_cons_zero, List.set_cons_succ, i64_w, i32_w, IntKind.wrap_u32]
                          rfl
                        refine done_ (done_of HT_.out (by kernel_rfl)) ?_
                        have hcz30_0 : w28.cell? ⟨gb10, 0, none⟩ = some (.int .u32 ((rd_T24 l0 xb).f0)) := (blk_cell BK10.out 0).trans rfl
                        have hcz30_1 : w28.cell? ⟨gb10, 1, none⟩ = some (.int .u32 ((rd_T24 l0 xb).f1)) := (blk_cell BK10.out 1).trans rfl
                        have hfz30_0 := blk_frozen BK10.out 0
                        have hfz30_1 := blk_frozen BK10.out 1
                        try go_wp2_with (first | ((with_reducible refine gate_dst (N := 49) rfl ?_); refine Kd.R_lit (Kd.int .u32) _ 22 ?hg (N := 49) ?hd (xs := ([((Int.tdiv ((rd_T24 l0 xb).f1) 65536) + 1) % 4294967296] : List Int)) (inner := [.int .u32 (((Int.tdiv ((rd_T24 l0 xb).f1) 65536) + 1) % 4294967296)]) (ok := fun _ => True) (okp := fun _ => True) ?hr ?hp (fun _ hk => hk) trivial (Below.refl _ _) (Nat.le_refl _) (by simp) ?_; (case hd => rfl); (case hg => rfl); (case hr => first | (go_simp; done) | (go_simp; rfl)); (case hp => exact (Reps.one (show Kd.M (Kd.int .u32) _ _ _ (((Int.tdiv ((rd_T24 l0 xb).f1) 65536) + 1) % 4294967296) [.int .u32 (((Int.tdiv ((rd_T24 l0 xb).f1) 65536) + 1) % 4294967296)] from rfl) (Reps.none _ _))); intro v24 w31 ho32 hb hg_ hnew_; clear hg_ hnew_; (first | rw [← Ny23.out] at ho32 | (simp only [Int.reduceToNat] at ho32; rw [← Ny23.out] at ho32)); have n0_ := Am (Kd.R_elder' (by (with_reducible repeat (first | apply rA | apply rN | apply rD)); exact HO13.out) (Kd.R_base ho32) hb); have n1_ := Am (Kd.R_elder' (by (with_reducible repeat (first | apply rA | apply rN | apply rD)); exact HO16.out) (Kd.R_base ho32) hb); have n2_ := Am (Kd.R_elder' (by (with_reducible repeat (first | apply rA | apply rN | apply rD)); exact HO19.out) (Kd.R_base ho32) hb); have n3_ := Am (Kd.R_elder' (by (with_reducible repeat (first | apply rA | apply rN | apply rD)); exact HO22.out) (Kd.R_base ho32) hb); have n4_ := Am (Kd.R_lower (Kd.R_new' (Kd.R_new' (Kd.R_new' (Kd.R_new' ho32 (rL (by (with_reducible repeat (first | apply rA | apply rN | apply rD)); exact HO13.out))) (rL (by (with_reducible repeat (first | apply rA | apply rN | apply rD)); exact HO16.out))) (rL (by (with_reducible repeat (first | apply rA | apply rN | apply rD)); exact HO19.out))) (rL (by (with_reducible repeat (first | apply rA | apply rN | apply rD)); exact HO22.out))) (below_size (by repeat (first | (with_reducible first | exact HB.out | apply lA | apply lN | apply lD | refine below_set ?_ GE10.out) | exact HB.out)))); have n5_ := Am (blk_below (g := gb10) (o := .cells #[.int .u32 ((rd_T24 l0 xb).f0), .int .u32 ((rd_T24 l0 xb).f1)] 24 (0, 0)) (by (with_reducible repeat (first | refine blk_drewN ?_ _ | refine blk_drew ?_ | refine blk_alloc ?_ _)); exact BK10.out) hb); have n6_ := Am (below_step (by repeat (first | (with_reducible first | exact HB.out | apply lA | apply lN | apply lD | refine below_set ?_ GE10.out) | exact HB.out)) hb); clear HO13; clear HO16; clear HO19; clear HO22; clear BK10; clear HB; have HO13 := n0_; have HO16 := n1_; have HO19 := n2_; have HO22 := n3_; have HO25 := n4_; have BK10 := n5_; have HB := n6_; clear n0_ n1_ n2_ n3_ n4_ n5_ n6_; clear hb ho32; obtain ⟨Ao34, co34, eo34⟩ := Kd.R_slice HO25.out; subst eo34) | ((with_reducible refine gate_builtin (b := .append) (xs := #[.tmp 47, .tmp 49]) rfl ?_); at_builtin; refine Kd.R_append_rows (Kd.int .u32) (w0 := w) w.heap.size rfl (.tmp 47) (.tmp 49) 31 22 (.int .u32 0) 4 rfl Try.underlying31 info22 rfl (by decide) (by omega) v15 y14 y23 _ _ _ (fun k_ => some k_ ≠ (v12 : Value).ownBlock ∧ some k_ ≠ (.slice Ao29 y17.length co29 : Value).ownBlock ∧ some k_ ≠ (v21 : Value).ownBlock ∧ some k_ ≠ (.slice Ao34 y23.length co34 : Value).ownBlock) (fun _ => False) rfl rfl ?aO ?aR (fun _ _ h => h) (fun _ h => h.elim) ?aF ?aB ?aS ?aL ?_; (case aR => repeat (first | exact (Kd.R_reads' HO25.out).2.2 | (with_reducible refine Kd.C_alloc ?_ _) | (with_reducible refine Kd.C_drewN ?_ _) | (with_reducible refine Kd.C_drew ?_))); (case aB => exact (by repeat (first | (with_reducible first | exact HB.out | apply lA | apply lN | apply lD | refine below_set ?_ GE10.out) | exact HB.out))); (case aF => exact (fun k_ hk => ⟨Kd.fresh' (rL (by (with_reducible repeat (first | apply rA | apply rN | apply rD)); exact HO13.out)) k_ hk, Kd.fresh' (rL (by (with_reducible repeat (first | apply rA | apply rN | apply rD)); exact HO19.out)) k_ hk, Kd.fresh' (rL (by (with_reducible repeat (first | apply rA | apply rN | apply rD)); exact HO22.out)) k_ hk, Kd.fresh' (rL (by (with_reducible repeat (first | apply rA | apply rN | apply rD)); exact HO25.out)) k_ hk⟩)); (case aO => exact (by (with_reducible repeat (first | apply rA | apply rN | apply rD)); exact rM HO16.out (fun _ hk => ⟨hk.1.1.1, ⟨hk.1.1.2, ⟨hk.1.2, hk.2⟩⟩⟩))); (case aS => exact (below_size (by repeat (first | (with_reducible first | exact HB.out | apply lA | apply lN | apply lD | refine below_set ?_ GE10.out) | exact HB.out)))); (case aL => have := LMc12.out; omega); intro v27 w33 ho hb hg hat; rw [← Ny26.out] at ho; have n0_ := Am (blk_grown (g := gb10) (o := .cells #[.int .u32 ((rd_T24 l0 xb).f0), .int .u32 ((rd_T24 l0 xb).f1)] 24 (0, 0)) (by (with_reducible repeat (first | refine blk_drewN ?_ _ | refine blk_drew ?_ | refine blk_alloc ?_ _)); exact BK10.out) hg (Kd.R_ne HO16.out BK10.out (by decide))); have n1_ := Am (Kd.R_after (ok := (fun k_ => some k_ ≠ (.slice Ao29 y17.length co29 : Value).ownBlock ∧ some k_ ≠ (v21 : Value).ownBlock ∧ some k_ ≠ (.slice Ao34 y23.length co34 : Value).ownBlock)) (by (with_reducible repeat (first | apply rA | apply rN | apply rD)); exact rM HO13.out (fun _ hk => ⟨⟨hk.1.1.2, ⟨hk.1.2, hk.2⟩⟩, hk.1.1.1⟩)) hg hat); have n2_ := Am (Kd.R_after (ok := (fun k_ => some k_ ≠ (v12 : Value).ownBlock ∧ some k_ ≠ (v21 : Value).ownBlock ∧ some k_ ≠ (.slice Ao34 y23.length co34 : Value).ownBlock)) (by (with_reducible repeat (first | apply rA | apply rN | apply rD)); exact rM HO19.out (fun _ hk => ⟨⟨hk.1.1.1, ⟨hk.1.2, hk.2⟩⟩, hk.1.1.2⟩)) hg hat); have n3_ := Am (Kd.R_after (ok := (fun k_ => some k_ ≠ (v12 : Value).ownBlock ∧ some k_ ≠ (.slice Ao29 y17.length co29 : Value).ownBlock ∧ some k_ ≠ (.slice Ao34 y23.length co34 : Value).ownBlock)) (by (with_reducible repeat (first | apply rA | apply rN | apply rD)); exact rM HO22.out (fun _ hk => ⟨⟨hk.1.1, ⟨hk.1.2.2, hk.2⟩⟩, hk.1.2.1⟩)) hg hat); have n4_ := Am (Kd.R_after (ok := (fun k_ => some k_ ≠ (v12 : Value).ownBlock ∧ some k_ ≠ (.slice Ao29 y17.length co29 : Value).ownBlock ∧ some k_ ≠ (v21 : Value).ownBlock)) (by (with_reducible repeat (first | apply rA | apply rN | apply rD)); exact rM HO25.out (fun _ hk => ⟨⟨hk.1.1.1.2, ⟨hk.1.2, hk.2⟩⟩, hk.1.1.2⟩)) hg hat); have n5_ := Am (hb); have n6_ := Am (ho); clear BK10; clear HO13; clear HO19; clear HO22; clear HO25; clear HB; clear HO16; have BK10 := n0_; have HO13 := n1_; have HO19 := n2_; have HO22 := n3_; have HO25 := n4_; have HB := n5_; have HO28 := n6_; clear n0_ n1_ n2_ n3_ n4_ n5_ n6_; clear ho hb hg hat; have hcz35_0 : w33.cell? ⟨gb10, 0, none⟩ = some (.int .u32 ((rd_T24 l0 xb).f0)) := (blk_cell BK10.out 0).trans rfl; have hcz35_1 : w33.cell? ⟨gb10, 1, none⟩ = some (.int .u32 ((rd_T24 l0 xb).f1)) := (blk_cell BK10.out 1).trans rfl; have hfz35_0 := blk_frozen BK10.out 0; have hfz35_1 := blk_frozen BK10.out 1) | ((with_reducible refine gate_dst (N := 59) rfl ?_); refine Kd.R_lit (Kd.int .u32) _ 22 ?hg (N := 59) ?hd (xs := ([((Int.tmod ((rd_T24 l0 xb).f1) 65536) + 1) % 4294967296] : List Int)) (inner := [.int .u32 (((Int.tmod ((rd_T24 l0 xb).f1) 65536) + 1) % 4294967296)]) (ok := fun _ => True) (okp := fun _ => True) ?hr ?hp (fun _ hk => hk) trivial (Below.refl _ _) (Nat.le_refl _) (by simp) ?_; (case hd => rfl); (case hg => rfl); (case hr => first | (go_simp; done) | (go_simp; rfl)); (case hp => exact (Reps.one (show Kd.M (Kd.int .u32) _ _ _ (((Int.tmod ((rd_T24 l0 xb).f1) 65536) + 1) % 4294967296) [.int .u32 (((Int.tmod ((rd_T24 l0 xb).f1) 65536) + 1) % 4294967296)] from rfl) (Reps.none _ _))); intro v30 w36 ho37 hb hg_ hnew_; clear hg_ hnew_; (first | rw [← Ny29.out] at ho37 | (simp only [Int.reduceToNat] at ho37; rw [← Ny29.out] at ho37)); have n0_ := Am (Kd.R_elder' (by (with_reducible repeat (first | apply rA | apply rN | apply rD)); exact HO13.out) (Kd.R_base ho37) hb); have n1_ := Am (Kd.R_elder' (by (with_reducible repeat (first | apply rA | apply rN | apply rD)); exact HO19.out) (Kd.R_base ho37) hb); have n2_ := Am (Kd.R_elder' (by (with_reducible repeat (first | apply rA | apply rN | apply rD)); exact HO22.out) (Kd.R_base ho37) hb); have n3_ := Am (Kd.R_elder' (by (with_reducible repeat (first | apply rA | apply rN | apply rD)); exact HO25.out) (Kd.R_base ho37) hb); have n4_ := Am (Kd.R_elder' (by (with_reducible repeat (first | apply rA | apply rN | apply rD)); exact HO28.out) (Kd.R_base ho37) hb); have n5_ := Am (Kd.R_lower (Kd.R_new' (Kd.R_new' (Kd.R_new' (Kd.R_new' (Kd.R_new' ho37 (rL (by (with_reducible repeat (first | apply rA | apply rN | apply rD)); exact HO13.out))) (rL (by (with_reducible repeat (first | apply rA | apply rN | apply rD)); exact HO19.out))) (rL (by (with_reducible repeat (first | apply rA | apply rN | apply rD)); exact HO22.out))) (rL (by (with_reducible repeat (first | apply rA | apply rN | apply rD)); exact HO25.out))) (rL (by (with_reducible repeat (first | apply rA | apply rN | apply rD)); exact HO28.out))) (below_size (by repeat (first | (with_reducible first | exact HB.out | apply lA | apply lN | apply lD | refine below_set ?_ GE10.out) | exact HB.out)))); have n6_ := Am (blk_below (g := gb10) (o := .cells #[.int .u32 ((rd_T24 l0 xb).f0), .int .u32 ((rd_T24 l0 xb).f1)] 24 (0, 0)) (by (with_reducible repeat (first | refine blk_drewN ?_ _ | refine blk_drew ?_ | refine blk_alloc ?_ _)); exact BK10.out) hb); have n7_ := Am (below_step (by repeat (first | (with_reducible first | exact HB.out | apply lA | apply lN | apply lD | refine below_set ?_ GE10.out) | exact HB.out)) hb); clear HO13; clear HO19; clear HO22; clear HO25; clear HO28; clear BK10; clear HB; have HO13 := n0_; have HO19 := n1_; have HO22 := n2_; have HO25 := n3_; have HO28 := n4_; have HO31 := n5_; have BK10 := n6_; have HB := n7_; clear n0_ n1_ n2_ n3_ n4_ n5_ n6_ n7_; clear hb ho37; obtain ⟨Ao39, co39, eo39⟩ := Kd.R_slice HO31.out; subst eo39) | ((with_reducible refine gate_builtin (b := .append) (xs := #[.tmp 57, .tmp 59]) rfl ?_); at_builtin; refine Kd.R_append_rows (Kd.int .u32) (w0 := w) w.heap.size rfl (.tmp 57) (.tmp 59) 31 22 (.int .u32 0) 4 rfl Try.underlying31 info22 rfl (by decide) (by omega) v21 y20 y29 _ _ _ (fun k_ => some k_ ≠ (v12 : Value).ownBlock ∧ some k_ ≠ (.slice Ao29 y17.length co29 : Value).ownBlock ∧ some k_ ≠ (.slice Ao34 y23.length co34 : Value).ownBlock ∧ some k_ ≠ (v27 : Value).ownBlock ∧ some k_ ≠ (.slice Ao39 y29.length co39 : Value).ownBlock) (fun _ => False) rfl rfl ?aO ?aR (fun _ _ h => h) (fun _ h => h.elim) ?aF ?aB ?aS ?aL ?_; (case aR => repeat (first | exact (Kd.R_reads' HO31.out).2.2 | (with_reducible refine Kd.C_alloc ?_ _) | (with_reducible refine Kd.C_drewN ?_ _) | (with_reducible refine Kd.C_drew ?_))); (case aB => exact (by repeat (first | (with_reducible first | exact HB.out | apply lA | apply lN | apply lD | refine below_set ?_ GE10.out) | exact HB.out))); (case aF => exact (fun k_ hk => ⟨Kd.fresh' (rL (by (with_reducible repeat (first | apply rA | apply rN | apply rD)); exact HO13.out)) k_ hk, Kd.fresh' (rL (by (with_reducible repeat (first | apply rA | apply rN | apply rD)); exact HO19.out)) k_ hk, Kd.fresh' (rL (by (with_reducible repeat (first | apply rA | apply rN | apply rD)); exact HO25.out)) k_ hk, Kd.fresh' (rL (by (with_reducible repeat (first | apply rA | apply rN | apply rD)); exact HO28.out)) k_ hk, Kd.fresh' (rL (by (with_reducible repeat (first | apply rA | apply rN | apply rD)); exact HO31.out)) k_ hk⟩)); (case aO => exact (by (with_reducible repeat (first | apply rA | apply rN | apply rD)); exact rM HO22.out (fun _ hk => ⟨hk.1.1.1, ⟨hk.1.1.2.1, ⟨hk.1.1.2.2, ⟨hk.1.2, hk.2⟩⟩⟩⟩))); (case aS => exact (below_size (by repeat (first | (with_reducible first | exact HB.out | apply lA | apply lN | apply lD | refine below_set ?_ GE10.out) | exact HB.out)))); (case aL => have := LMc14.out; omega); intro v33 w38 ho hb hg hat; rw [← Ny32.out] at ho; have n0_ := Am (blk_grown (g := gb10) (o := .cells #[.int .u32 ((rd_T24 l0 xb).f0), .int .u32 ((rd_T24 l0 xb).f1)] 24 (0, 0)) (by (with_reducible repeat (first | refine blk_drewN ?_ _ | refine blk_drew ?_ | refine blk_alloc ?_ _)); exact BK10.out) hg (Kd.R_ne HO22.out BK10.out (by decide))); have n1_ := Am (Kd.R_after (ok := (fun k_ => some k_ ≠ (.slice Ao29 y17.length co29 : Value).ownBlock ∧ some k_ ≠ (.slice Ao34 y23.length co34 : Value).ownBlock ∧ some k_ ≠ (v27 : Value).ownBlock ∧ some k_ ≠ (.slice Ao39 y29.length co39 : Value).ownBlock)) (by (with_reducible repeat (first | apply rA | apply rN | apply rD)); exact rM HO13.out (fun _ hk => ⟨⟨hk.1.1.1, ⟨hk.1.1.2.2, ⟨hk.1.2, hk.2⟩⟩⟩, hk.1.1.2.1⟩)) hg hat); have n2_ := Am (Kd.R_after (ok := (fun k_ => some k_ ≠ (v12 : Value).ownBlock ∧ some k_ ≠ (.slice Ao34 y23.length co34 : Value).ownBlock ∧ some k_ ≠ (v27 : Value).ownBlock ∧ some k_ ≠ (.slice Ao39 y29.length co39 : Value).ownBlock)) (by (with_reducible repeat (first | apply rA | apply rN | apply rD)); exact rM HO19.out (fun _ hk => ⟨⟨hk.1.1.1, ⟨hk.1.1.2.2, ⟨hk.1.2, hk.2⟩⟩⟩, hk.1.1.2.1⟩)) hg hat); have n3_ := Am (Kd.R_after (ok := (fun k_ => some k_ ≠ (v12 : Value).ownBlock ∧ some k_ ≠ (.slice Ao29 y17.length co29 : Value).ownBlock ∧ some k_ ≠ (v27 : Value).ownBlock ∧ some k_ ≠ (.slice Ao39 y29.length co39 : Value).ownBlock)) (by (with_reducible repeat (first | apply rA | apply rN | apply rD)); exact rM HO25.out (fun _ hk => ⟨⟨hk.1.1.1, ⟨hk.1.1.2.1, ⟨hk.1.2, hk.2⟩⟩⟩, hk.1.1.2.2⟩)) hg hat); have n4_ := Am (Kd.R_after (ok := (fun k_ => some k_ ≠ (v12 : Value).ownBlock ∧ some k_ ≠ (.slice Ao29 y17.length co29 : Value).ownBlock ∧ some k_ ≠ (.slice Ao34 y23.length co34 : Value).ownBlock ∧ some k_ ≠ (.slice Ao39 y29.length co39 : Value).ownBlock)) (by (with_reducible repeat (first | apply rA | apply rN | apply rD)); exact rM HO28.out (fun _ hk => ⟨⟨hk.1.1, ⟨hk.1.2.1, ⟨hk.1.2.2.2, hk.2⟩⟩⟩, hk.1.2.2.1⟩)) hg hat); have n5_ := Am (Kd.R_after (ok := (fun k_ => some k_ ≠ (v12 : Value).ownBlock ∧ some k_ ≠ (.slice Ao29 y17.length co29 : Value).ownBlock ∧ some k_ ≠ (.slice Ao34 y23.length co34 : Value).ownBlock ∧ some k_ ≠ (v27 : Value).ownBlock)) (by (with_reducible repeat (first | apply rA | apply rN | apply rD)); exact rM HO31.out (fun _ hk => ⟨⟨hk.1.1.1.1.2, ⟨hk.1.1.1.2, ⟨hk.1.2, hk.2⟩⟩⟩, hk.1.1.2⟩)) hg hat); have n6_ := Am (hb); have n7_ := Am (ho); clear BK10; clear HO13; clear HO19; clear HO25; clear HO28; clear HO31; clear HB; clear HO22; have BK10 := n0_; have HO13 := n1_; have HO19 := n2_; have HO25 := n3_; have HO28 := n4_; have HO31 := n5_; have HB := n6_; have HO34 := n7_; clear n0_ n1_ n2_ n3_ n4_ n5_ n6_ n7_; clear ho hb hg hat))
                        go_roundg k1
                        case measure => have := HK1.out; omega
                        case rel => exact ⟨(y26), (y32), (wrap64 (xb + 1)), (by first | rfl | (simp; done) | (simp [*]; done)), H', ⟨by have := HK1.out; omega⟩, ⟨by (with_reducible repeat (first | apply rA | apply rN | apply rD)); exact rM HO28.out (fun _ hk => hk.2)⟩, ⟨by (with_reducible repeat (first | apply rA | apply rN | apply rD)); exact rM HO34.out (fun _ hk => hk.2.2.2.1)⟩, ⟨by repeat (first | (with_reducible first | exact HB.out | apply lA | apply lN | apply lD | refine below_set ?_ GE10.out) | exact HB.out)⟩⟩
                      · rw [if_neg c14] at H
                        exact absurd H (by simp)
                    · rw [if_neg c13] at H
                      have c13b0 : decide ((((Int.tmod ((rd_T24 l0 xb).f1) 65536) + 1) % 4294967296) < 65536) = false := decide_eq_false c13
                      clear c13
                      have H' := Am H
                      clear H
                      have p9 : 0 ≤ (xb : Int) := of_decide_eq_true (by first | (with_reducible assumption) | assumption)
                      have q9 : xb < (l0.length : Int) := of_decide_eq_true (by first | (with_reducible assumption) | assumption)
                      obtain ⟨ad9, e9, hx9_0, hx9_1⟩ := at_T24 HR0.out xb p9 q9
                      cases e9
                      replace hx9_0 := (HB.out.cell (World.block_lt_of_cell? w _ hx9_0)).trans hx9_0
                      replace hx9_1 := (HB.out.cell (World.block_lt_of_cell? w _ hx9_1)).trans hx9_1
                      replace p9 := eq_true p9
                      replace q9 := eq_true q9
                      try go_wp2_with (first | ((with_reducible refine gate_dst (N := 7) rfl ?_); refine box_event ?hg (N := 7) ?hd (cs := #[.int .u32 0, .int .u32 0]) (t := 24) ?hr ?_; (case hd => rfl); (case hg => rfl); (case hr => first | (go_simp; done) | (go_simp; rfl)); intro gb10 hg w40 hbox hb; have n0_ := Am (Kd.R_below (by (with_reducible repeat (first | apply rA | apply rN | apply rD)); exact HO_4.out) hb); have n1_ := Am (Kd.R_below (by (with_reducible repeat (first | apply rA | apply rN | apply rD)); exact HO_5.out) hb); have n2_ := Am (below_step (by repeat (first | (with_reducible first | exact HB.out | apply lA | apply lN | apply lD) | exact HB.out)) hb); have n3_ := Am (hbox); have n4_ := Am ((by rw [hg]; exact (below_size (by repeat (first | (with_reducible first | exact HB.out | apply lA | apply lN | apply lD) | exact HB.out))) : w.heap.size ≤ gb10)); have n5_ := Am ((by rw [hg]; exact (below_size (by repeat (first | (with_reducible first | exact HB.out | apply lA | apply lN | apply lD) | exact HB.out))) : w.heap.size ≤ gb10)); clear HO_4; clear HO_5; clear HB; have HO_4 := n0_; have HO_5 := n1_; have HB := n2_; have BK10 := n3_; have GW10 := n4_; have GE10 := n5_; clear n0_ n1_ n2_ n3_ n4_ n5_; clear hb hbox hg; have hcz41_0 : w40.cell? ⟨gb10, 0, none⟩ = some (.int .u32 0) := (blk_cell BK10.out 0).trans rfl; have hcz41_1 : w40.cell? ⟨gb10, 1, none⟩ = some (.int .u32 0) := (blk_cell BK10.out 1).trans rfl; have hfz41_0 := blk_frozen BK10.out 0; have hfz41_1 := blk_frozen BK10.out 1; obtain ⟨Ao42, co42, eo42⟩ := Kd.R_slice HO_4.out; subst eo42; obtain ⟨Ao43, co43, eo43⟩ := Kd.R_slice HO_5.out; subst eo43))
                      have n0_ : Aside0 (Kd.R (Kd.int .u32) 22 ((w40.setCell ⟨gb10, 0, none⟩ (.int .u32 ((rd_T24 l0 xb).f0))).setCell ⟨gb10, 1, none⟩ (.int .u32 ((rd_T24 l0 xb).f1))) w.heap.size (fun k_ => some k_ ≠ (.slice Ao43 x5_1.length co43 : Value).ownBlock) (.slice Ao42 x4_1.length co42) x4_1) := ⟨by (with_reducible repeat (first | apply rA | apply rN | apply rD)); exact rM (Kd.R_far (p := ⟨gb10, 1, none⟩) (Kd.R_far (p := ⟨gb10, 0, none⟩) (Kd.R_types HO_4.out BK10.out (by decide)) (fun _ hk => hk.2) (.int .u32 ((rd_T24 l0 xb).f0))) (fun _ hk => hk.2) (.int .u32 ((rd_T24 l0 xb).f1))) (fun _ hk => hk.1)⟩
                      have n1_ : Aside0 (Kd.R (Kd.int .u32) 22 ((w40.setCell ⟨gb10, 0, none⟩ (.int .u32 ((rd_T24 l0 xb).f0))).setCell ⟨gb10, 1, none⟩ (.int .u32 ((rd_T24 l0 xb).f1))) w.heap.size (fun k_ => some k_ ≠ (.slice Ao42 x4_1.length co42 : Value).ownBlock) (.slice Ao43 x5_1.length co43) x5_1) := ⟨by (with_reducible repeat (first | apply rA | apply rN | apply rD)); exact rM (Kd.R_far (p := ⟨gb10, 1, none⟩) (Kd.R_far (p := ⟨gb10, 0, none⟩) (Kd.R_types HO_5.out BK10.out (by decide)) (fun _ hk => hk.2) (.int .u32 ((rd_T24 l0 xb).f0))) (fun _ hk => hk.2) (.int .u32 ((rd_T24 l0 xb).f1))) (fun _ hk => hk.1)⟩
                      have n2_ : Aside0 (((w40.setCell ⟨gb10, 0, none⟩ (.int .u32 ((rd_T24 l0 xb).f0))).setCell ⟨gb10, 1, none⟩ (.int .u32 ((rd_T24 l0 xb).f1))).heap[gb10]? = some (.cells #[.int .u32 ((rd_T24 l0 xb).f0), .int .u32 ((rd_T24 l0 xb).f1)] 24 (0, 0))) := ⟨by (with_reducible repeat (first | refine blk_drewN ?_ _ | refine blk_drew ?_ | refine blk_alloc ?_ _)); refine blk_put (cs := #[.int .u32 ((rd_T24 l0 xb).f0), .int .u32 0]) ?_ 1 _ rfl; (with_reducible repeat (first | refine blk_drewN ?_ _ | refine blk_drew ?_ | refine blk_alloc ?_ _)); refine blk_put (cs := #[.int .u32 0, .int .u32 0]) ?_ 0 _ rfl; (with_reducible repeat (first | refine blk_drewN ?_ _ | refine blk_drew ?_ | refine blk_alloc ?_ _)); exact BK10.out⟩
                      have n3_ : Aside0 (Below w.heap.size w ((w40.setCell ⟨gb10, 0, none⟩ (.int .u32 ((rd_T24 l0 xb).f0))).setCell ⟨gb10, 1, none⟩ (.int .u32 ((rd_T24 l0 xb).f1)))) := ⟨by repeat (first | (with_reducible first | exact HB.out | apply lA | apply lN | apply lD | refine below_set ?_ GE10.out) | exact HB.out)⟩
                      (try clear HO_4)
                      (try clear HO_5)
                      (try clear BK10)
                      (try clear HB)
                      generalize ((w40.setCell ⟨gb10, 0, none⟩ (.int .u32 ((rd_T24 l0 xb).f0))).setCell ⟨gb10, 1, none⟩ (.int .u32 ((rd_T24 l0 xb).f1))) = w44 at n0_ n1_ n2_ n3_ ⊢
                      have HO_4 := n0_
                      have HO_5 := n1_
                      have BK10 := n2_
                      have HB := n3_
                      clear n0_ n1_ n2_ n3_
                      have n0_ := Am (Kd.R_drew HO_4.out)
                      have n1_ := Am (Kd.R_drew HO_5.out)
                      have n2_ := Am (blk_drew BK10.out)
                      have n3_ := Am (lD HB.out)
                      clear HO_4
                      clear HO_5
                      clear BK10
                      clear HB
                      have HO_4 := n0_
                      have HO_5 := n1_
                      have BK10 := n2_
                      have HB := n3_
                      clear n0_ n1_ n2_ n3_
                      refine start_ (n := 14) (S := fun w' => w'.cell? ⟨gb10, 0, none⟩ = some (.int .u32 ((rd_T24 l0 xb).f0)) ∧ w'.cell? ⟨gb10, 1, none⟩ = some (.int .u32 ((rd_T24 l0 xb).f1))) (ds := []) #[false, false, false, false, false, false, false, false, false, false, false, false, false, false] (by kernel_rfl) rfl rfl ⟨(blk_cell BK10.out 0).trans rfl, (blk_cell BK10.out 1).trans rfl⟩ (fun hHeld => ?_); refine with_tabW cells_half.tab7 cells_half.bits7 (fun HT_ HW_ => ?_)
                      generalize w44.drew = w45 at HO_4 HO_5 BK10 HB hHeld ⊢
                      refine pure_ (i := 0) (N := some 29) (v := ?_) (a' := ?_) #[true, false, false, false, false, false, false, false, false, false, false, false, false, false] rfl rfl (any_of HT_.out (by kernel_rfl)) (fun _ _ _ h => h) (Or.inl ⟨by rfl, ?_⟩) ?_ ?_
                      rotate_left
                      · intro w'
                        go_simp
                        with_reducible rfl
                      rotate_left
                      · simp only [Act.put, List.setIfInBounds_toArray, List.set_cons_zero, List.set_cons_succ, i64_w, i32_w, IntKind.wrap_u32]
                        rfl
                      refine pure_ (i := 1) (N := some 30) (v := ?_) (a' := ?_) #[true, true, false, false, false, false, false, false, false, false, false, false, false, false] rfl rfl (any_of HT_.out (by kernel_rfl)) (fun _ _ _ h => h) (Or.inl ⟨by rfl, ?_⟩) ?_ ?_
                      rotate_left
                      · intro w'
                        go_simp
                        with_reducible rfl
                      rotate_left
                      · simp only [Act.put, List.setIfInBounds_toArray, List.set_cons_zero, List.set_cons_succ, i64_w, i32_w, IntKind.wrap_u32]
                        rfl
                      refine pure_ (i := 6) (N := some 35) (v := ?_) (a' := ?_) #[true, true, false, false, false, false, true, false, false, false, false, false, false, false] rfl rfl (any_of HT_.out (by kernel_rfl)) (fun _ _ _ h => h) (Or.inl ⟨by rfl, ?_⟩) ?_ ?_
                      rotate_left
                      · intro w'
                        go_simp
                        with_reducible rfl
                      rotate_left
                      · simp only [Act.put, List.setIfInBounds_toArray, List.set_cons_zero, List.set_cons_succ, i64_w, i32_w, IntKind.wrap_u32]
                        rfl
                      refine pure_ (i := 7) (N := some 36) (v := ?_) (a' := ?_) #[true, true, false, false, false, false, true, true, false, false, false, false, false, false] rfl rfl (any_of HT_.out (by kernel_rfl)) (fun _ _ _ h => h) (Or.inl ⟨by rfl, ?_⟩) ?_ ?_
                      rotate_left
                      · intro w'
                        go_simp
                        with_reducible rfl
                      rotate_left
                      · simp only [Act.put, List.setIfInBounds_toArray, List.set_cons_zero, List.set_cons_succ, i64_w, i32_w, IntKind.wrap_u32]
                        rfl
                      refine take_ (i := 2) (N := some 31) (v := ?_) (a' := ?_) #[true, true, true, false, false, false, true, true, false, false, false, false, false, false] rfl rfl (take_ofW HT_.out HW_.out (by kernel_rfl)) (fun _ _ _ h => h) (Or.inl ⟨by rfl, ?_⟩) hHeld ?_ ?_
                      rotate_left
                      · rintro w' ⟨s0, s1⟩
                        go_simp
                        with_reducible rfl
                      rotate_left
                      · simp only [Act.put, List.setIfInBounds_toArray, List.set_cons_zero, List.set_cons_succ, i64_w, i32_w, IntKind.wrap_u32]
                        rfl
                      refine pure_ (i := 3) (N := some 32) (v := ?_) (a' := ?_) #[true, true, true, true, false, false, true, true, false, false, false, false, false, false] rfl rfl (any_of HT_.out (by kernel_rfl)) (fun _ _ _ h => h) (Or.inl ⟨by rfl, ?_⟩) ?_ ?_
                      rotate_left
                      · intro w'
                        go_simp
                        with_reducible rfl
                      rotate_left
                      · simp only [Act.put, List.setIfInBounds_toArray, List.set_cons_zero, List.set_cons_succ, i64_w, i32_w, IntKind.wrap_u32]
                        rfl
                      refine take_ (i := 8) (N := some 37) (v := ?_) (a' := ?_) #[true, true, true, true, false, false, true, true, true, false, false, false, false, false] rfl rfl (take_ofW HT_.out HW_.out (by kernel_rfl)) (fun _ _ _ h => h) (Or.inl ⟨by rfl, ?_⟩) hHeld ?_ ?_
                      rotate_left
                      · rintro w' ⟨s0, s1⟩
                        go_simp
                        with_reducible rfl
                      rotate_left
                      · simp only [Act.put, List.setIfInBounds_toArray, List.set_cons_zero, List.set_cons_succ, i64_w, i32_w, IntKind.wrap_u32]
                        rfl
                      refine pure_ (i := 9) (N := some 38) (v := ?_) (a' := ?_) #[true, true, true, true, false, false, true, true, true, true, false, false, false, false] rfl rfl (any_of HT_.out (by kernel_rfl)) (fun _ _ _ h => h) (Or.inl ⟨by rfl, ?_⟩) ?_ ?_
                      rotate_left
                      · intro w'
                        go_simp
                        with_reducible rfl
                      rotate_left
                      · simp only [Act.put, List.setIfInBounds_toArray, List.set_cons_zero, List.set_cons_succ, i64_w, i32_w, IntKind.wrap_u32]
                        rfl
                      refine join_ (σ := Value × Value × Value) 3 #[true, true, true, true, true, true, true, true, true, true, true, false, false, false] (fun s_ => [(33, s_.1), (34, s_.2.1), (39, s_.2.2)]) (fun s_ w' => (w'.cell? ⟨gb10, 0, none⟩ = some (.int .u32 ((rd_T24 l0 xb).f0)) ∧ w'.cell? ⟨gb10, 1, none⟩ = some (.int .u32 ((rd_T24 l0 xb).f1))) ∧ (Kd.R (Kd.int .u32) 22 w' w.heap.size (fun k_ => some k_ ≠ (s_.2.1 : Value).ownBlock ∧ some k_ ≠ (s_.2.2 : Value).ownBlock ∧ some k_ ≠ (.slice Ao43 x5_1.length co43 : Value).ownBlock) s_.1 y11) ∧ (Kd.R (Kd.int .u32) 22 w' w.heap.size (fun k_ => some k_ ≠ (s_.1 : Value).ownBlock ∧ some k_ ≠ (s_.2.2 : Value).ownBlock ∧ some k_ ≠ (.slice Ao43 x5_1.length co43 : Value).ownBlock) s_.2.1 y14) ∧ (Kd.R (Kd.int .u32) 22 w' w.heap.size (fun k_ => some k_ ≠ (s_.1 : Value).ownBlock ∧ some k_ ≠ (s_.2.1 : Value).ownBlock ∧ some k_ ≠ (.slice Ao43 x5_1.length co43 : Value).ownBlock) s_.2.2 y17) ∧ (Kd.R (Kd.int .u32) 22 w' w.heap.size (fun k_ => some k_ ≠ (s_.1 : Value).ownBlock ∧ some k_ ≠ (s_.2.1 : Value).ownBlock ∧ some k_ ≠ (s_.2.2 : Value).ownBlock) (.slice Ao43 x5_1.length co43) x5_1) ∧ (w'.heap[gb10]? = some (.cells #[.int .u32 ((rd_T24 l0 xb).f0), .int .u32 ((rd_T24 l0 xb).f1)] 24 (0, 0))) ∧ (Below w.heap.size w w')) ?_ ?_
                      rotate_left
                      · intro hCont
                        refine two_ (i := 4) (j := 10) (Ni := some 33) (Nj := some 39) #[true, true, true, true, true, false, true, true, true, true, false, false, false, false] #[true, true, true, true, false, false, true, true, true, true, true, false, false, false] rfl rfl rfl rfl (two_of HT_.out (by kernel_rfl)) (by decide) (by decide) (fun K hK => ?_) (fun K hK => ?_)
                        · skip
                          refine Kd.R_lit_step (Kd.int .u32) _ 22 ?hg (N := 33) ?hd (xs := ([(Int.tdiv ((rd_T24 l0 xb).f0) 65536) % 4294967296] : List Int)) (inner := [.int .u32 ((Int.tdiv ((rd_T24 l0 xb).f0) 65536) % 4294967296)]) (ok := fun _ => True) (okp := fun _ => True) ?hr ?hp (fun _ hk => hk) trivial (Below.refl _ _) (Nat.le_refl _) (by simp) ?_; (case hd => rfl); (case hg => rfl); (case hr => first | (go_simp; done) | (go_simp; rfl)); (case hp => exact (Reps.one (show Kd.M (Kd.int .u32) _ _ _ ((Int.tdiv ((rd_T24 l0 xb).f0) 65536) % 4294967296) [.int .u32 ((Int.tdiv ((rd_T24 l0 xb).f0) 65536) % 4294967296)] from rfl) (Reps.none _ _)))
                          intro v12 w46 ho47 hb hg_ hnew_
                          clear hg_ hnew_
                          (first | rw [← Ny11.out] at ho47 | (simp only [Int.reduceToNat] at ho47; rw [← Ny11.out] at ho47))
                          have n0_ := Am (Kd.R_elder' (by (with_reducible repeat (first | apply rA | apply rN | apply rD)); exact HO_4.out) (Kd.R_base ho47) hb)
                          have n1_ := Am (Kd.R_elder' (by (with_reducible repeat (first | apply rA | apply rN | apply rD)); exact HO_5.out) (Kd.R_base ho47) hb)
                          have n2_ := Am (Kd.R_lower (Kd.R_new' (Kd.R_new' ho47 (rL (by (with_reducible repeat (first | apply rA | apply rN | apply rD)); exact HO_4.out))) (rL (by (with_reducible repeat (first | apply rA | apply rN | apply rD)); exact HO_5.out))) (below_size (by repeat (first | (with_reducible first | exact HB.out | apply lA | apply lN | apply lD | refine below_set ?_ GE10.out) | exact HB.out))))
                          have n3_ := Am (blk_below (g := gb10) (o := .cells #[.int .u32 ((rd_T24 l0 xb).f0), .int .u32 ((rd_T24 l0 xb).f1)] 24 (0, 0)) (by (with_reducible repeat (first | refine blk_drewN ?_ _ | refine blk_drew ?_ | refine blk_alloc ?_ _)); exact BK10.out) hb)
                          have n4_ := Am (below_step (by repeat (first | (with_reducible first | exact HB.out | apply lA | apply lN | apply lD | refine below_set ?_ GE10.out) | exact HB.out)) hb)
                          clear HO_4
                          clear HO_5
                          clear BK10
                          clear HB
                          have HO_4 := n0_
                          have HO_5 := n1_
                          have HO13 := n2_
                          have BK10 := n3_
                          have HB := n4_
                          clear n0_ n1_ n2_ n3_ n4_
                          clear hb ho47
                          obtain ⟨Ao49, co49, eo49⟩ := Kd.R_slice HO13.out
                          (first | subst eo49 | (injection eo49 with f1_ f2_ f3_; have f4_ := f1_.symm; have f5_ := f3_.symm; clear f1_ f2_ f3_; subst f4_; subst f5_))
                          refine hK.out _ _ ⟨(blk_cell BK10.out 0).trans rfl, (blk_cell BK10.out 1).trans rfl⟩ (fun hHeld => ?_)
                          clear hK K
                          refine norm_ (a' := ?_) ?_ ?_
                          rotate_left
                          · show Act.put _ (some 33) _ = _
                            simp only [Act.put, List.setIfInBounds_toArray, List.set_cons_zero, List.set_cons_succ, i64_w, i32_w, IntKind.wrap_u32]
                            rfl
                          refine two_ (i := 5) (j := 10) (Ni := some 34) (Nj := some 39) #[true, true, true, true, true, true, true, true, true, true, false, false, false, false] #[true, true, true, true, true, false, true, true, true, true, true, false, false, false] rfl rfl rfl rfl (two_of HT_.out (by kernel_rfl)) (by decide) (by decide) (fun K hK => ?_) (fun K hK => ?_)
                          · skip
                            refine Kd.R_append_rows_step (Kd.int .u32) (w0 := w) w.heap.size (by rfl) (.tmp 29) (.tmp 33) 31 22 (.int .u32 0) 4 rfl Try.underlying31 info22 rfl (by decide) (by omega) (.slice Ao42 x4_1.length co42) x4_1 y11 _ _ _ (fun k_ => some k_ ≠ (.slice Ao43 x5_1.length co43 : Value).ownBlock ∧ some k_ ≠ (.slice Ao49 y11.length co49 : Value).ownBlock) (fun _ => False) rfl rfl ?aO ?aR (fun _ _ h => h) (fun _ h => h.elim) ?aF ?aB ?aS ?aL ?_
                            (case aR => repeat (first | exact (Kd.R_reads' HO13.out).2.2 | (with_reducible refine Kd.C_alloc ?_ _) | (with_reducible refine Kd.C_drewN ?_ _) | (with_reducible refine Kd.C_drew ?_)))
                            (case aB => exact (by repeat (first | (with_reducible first | exact HB.out | apply lA | apply lN | apply lD | refine below_set ?_ GE10.out) | exact HB.out)))
                            (case aF => exact (fun k_ hk => ⟨Kd.fresh' (rL (by (with_reducible repeat (first | apply rA | apply rN | apply rD)); exact HO_5.out)) k_ hk, Kd.fresh' (rL (by (with_reducible repeat (first | apply rA | apply rN | apply rD)); exact HO13.out)) k_ hk⟩))
                            (case aO => exact (by (with_reducible repeat (first | apply rA | apply rN | apply rD)); exact HO_4.out))
                            (case aS => exact (below_size (by repeat (first | (with_reducible first | exact HB.out | apply lA | apply lN | apply lD | refine below_set ?_ GE10.out) | exact HB.out))))
                            (case aL => have := LMc9.out; omega)
                            intro v15 w48 ho hb hg hat
                            rw [← Ny14.out] at ho
                            have n0_ := Am (Kd.R_after (ok := (fun k_ => some k_ ≠ (.slice Ao49 y11.length co49 : Value).ownBlock)) (by (with_reducible repeat (first | apply rA | apply rN | apply rD)); exact rM HO_5.out (fun _ hk => ⟨hk.2, hk.1⟩)) hg hat)
                            have n1_ := Am (blk_grown (g := gb10) (o := .cells #[.int .u32 ((rd_T24 l0 xb).f0), .int .u32 ((rd_T24 l0 xb).f1)] 24 (0, 0)) (by (with_reducible repeat (first | refine blk_drewN ?_ _ | refine blk_drew ?_ | refine blk_alloc ?_ _)); exact BK10.out) hg (Kd.R_ne HO_4.out BK10.out (by decide)))
                            have n2_ := Am (Kd.R_after (ok := (fun k_ => some k_ ≠ (.slice Ao43 x5_1.length co43 : Value).ownBlock)) (by (with_reducible repeat (first | apply rA | apply rN | apply rD)); exact rM HO13.out (fun _ hk => ⟨hk.2, hk.1.2⟩)) hg hat)
                            have n3_ := Am (hb)
                            have n4_ := Am (ho)
                            clear HO_5
                            clear BK10
                            clear HO13
                            clear HB
                            clear HO_4
                            have HO_5 := n0_
                            have BK10 := n1_
                            have HO13 := n2_
                            have HB := n3_
                            have HO16 := n4_
                            clear n0_ n1_ n2_ n3_ n4_
                            clear ho hb hg hat
                            refine hK.out _ _ ⟨(blk_cell BK10.out 0).trans rfl, (blk_cell BK10.out 1).trans rfl⟩ (fun hHeld => ?_)
                            clear hK K
                            refine norm_ (a' := ?_) ?_ ?_
                            rotate_left
                            · show Act.put _ (some 34) _ = _
                              simp only [Act.put, List.setIfInBounds_toArray, List.set_cons_zero, List.set_cons_succ, i64_w, i32_w, IntKind.wrap_u32]
                              rfl
                            refine one_ (i := 10) (N := some 39) #[true, true, true, true, true, true, true, true, true, true, true, false, false, false] rfl rfl (one_of HT_.out (by kernel_rfl)) (by decide) (fun K hK => ?_)
                            refine Kd.R_lit_step (Kd.int .u32) _ 22 ?hg (N := 39) ?hd (xs := ([Int.tmod ((rd_T24 l0 xb).f0) 65536] : List Int)) (inner := [.int .u32 (Int.tmod ((rd_T24 l0 xb).f0) 65536)]) (ok := fun _ => True) (okp := fun _ => True) ?hr ?hp (fun _ hk => hk) trivial (Below.refl _ _) (Nat.le_refl _) (by simp) ?_; (case hd => rfl); (case hg => rfl); (case hr => first | (go_simp; done) | (go_simp; rfl)); (case hp => exact (Reps.one (show Kd.M (Kd.int .u32) _ _ _ (Int.tmod ((rd_T24 l0 xb).f0) 65536) [.int .u32 (Int.tmod ((rd_T24 l0 xb).f0) 65536)] from rfl) (Reps.none _ _)))
                            intro v18 w50 ho51 hb hg_ hnew_
                            clear hg_ hnew_
                            (first | rw [← Ny17.out] at ho51 | (simp only [Int.reduceToNat] at ho51; rw [← Ny17.out] at ho51))
                            have n0_ := Am (Kd.R_elder' (by (with_reducible repeat (first | apply rA | apply rN | apply rD)); exact HO_5.out) (Kd.R_base ho51) hb)
                            have n1_ := Am (Kd.R_elder' (by (with_reducible repeat (first | apply rA | apply rN | apply rD)); exact HO13.out) (Kd.R_base ho51) hb)
                            have n2_ := Am (Kd.R_elder' (by (with_reducible repeat (first | apply rA | apply rN | apply rD)); exact HO16.out) (Kd.R_base ho51) hb)
                            have n3_ := Am (Kd.R_lower (Kd.R_new' (Kd.R_new' (Kd.R_new' ho51 (rL (by (with_reducible repeat (first | apply rA | apply rN | apply rD)); exact HO_5.out))) (rL (by (with_reducible repeat (first | apply rA | apply rN | apply rD)); exact HO13.out))) (rL (by (with_reducible repeat (first | apply rA | apply rN | apply rD)); exact HO16.out))) (below_size (by repeat (first | (with_reducible first | exact HB.out | apply lA | apply lN | apply lD | refine below_set ?_ GE10.out) | exact HB.out))))
                            have n4_ := Am (blk_below (g := gb10) (o := .cells #[.int .u32 ((rd_T24 l0 xb).f0), .int .u32 ((rd_T24 l0 xb).f1)] 24 (0, 0)) (by (with_reducible repeat (first | refine blk_drewN ?_ _ | refine blk_drew ?_ | refine blk_alloc ?_ _)); exact BK10.out) hb)
                            have n5_ := Am (below_step (by repeat (first | (with_reducible first | exact HB.out | apply lA | apply lN | apply lD | refine below_set ?_ GE10.out) | exact HB.out)) hb)
                            clear HO_5
                            clear HO13
                            clear HO16
                            clear BK10
                            clear HB
                            have HO_5 := n0_
                            have HO13 := n1_
                            have HO16 := n2_
                            have HO19 := n3_
                            have BK10 := n4_
                            have HB := n5_
                            clear n0_ n1_ n2_ n3_ n4_ n5_
                            clear hb ho51
                            refine hK.out _ _ ⟨(blk_cell BK10.out 0).trans rfl, (blk_cell BK10.out 1).trans rfl⟩ (fun hHeld => ?_)
                            clear hK K
                            refine norm_ (a' := ?_) ?_ ?_
                            rotate_left
                            · show Act.put _ (some 39) _ = _
                              simp only [Act.put, List.setIfInBounds_toArray, List.set_cons_zero, List.set_cons_succ, i64_w, i32_w, IntKind.wrap_u32]
                              rfl
                            exact norm_ (by simp only [putAll, Act.put, List.setIfInBounds_toArray, List.set_cons_zero, List.set_cons_succ]) (hCont (.slice Ao49 y11.length co49, v15, v18) _ ⟨hHeld, (by (with_reducible repeat (first | apply rA | apply rN | apply rD)); exact rM HO13.out (fun _ hk => ⟨hk.1.2, ⟨hk.2, hk.1.1⟩⟩)), (by (with_reducible repeat (first | apply rA | apply rN | apply rD)); exact rM HO16.out (fun _ hk => ⟨hk.1.2, ⟨hk.2, hk.1.1⟩⟩)), (by (with_reducible repeat (first | apply rA | apply rN | apply rD)); exact rM HO19.out (fun _ hk => ⟨hk.1.2, ⟨hk.2, hk.1.1.2⟩⟩)), (by (with_reducible repeat (first | apply rA | apply rN | apply rD)); exact rM HO_5.out (fun _ hk => ⟨hk.1.1, ⟨hk.1.2, hk.2⟩⟩)), (by (with_reducible repeat (first | refine blk_drewN ?_ _ | refine blk_drew ?_ | refine blk_alloc ?_ _)); exact BK10.out), (by repeat (first | (with_reducible first | exact HB.out | apply lA | apply lN | apply lD | refine below_set ?_ GE10.out) | exact HB.out))⟩)
                          · skip
                            refine Kd.R_lit_step (Kd.int .u32) _ 22 ?hg (N := 39) ?hd (xs := ([Int.tmod ((rd_T24 l0 xb).f0) 65536] : List Int)) (inner := [.int .u32 (Int.tmod ((rd_T24 l0 xb).f0) 65536)]) (ok := fun _ => True) (okp := fun _ => True) ?hr ?hp (fun _ hk => hk) trivial (Below.refl _ _) (Nat.le_refl _) (by simp) ?_; (case hd => rfl); (case hg => rfl); (case hr => first | (go_simp; done) | (go_simp; rfl)); (case hp => exact (Reps.one (show Kd.M (Kd.int .u32) _ _ _ (Int.tmod ((rd_T24 l0 xb).f0) 65536) [.int .u32 (Int.tmod ((rd_T24 l0 xb).f0) 65536)] from rfl) (Reps.none _ _)))
                            intro v18 w48 ho49 hb hg_ hnew_
                            clear hg_ hnew_
                            (first | rw [← Ny17.out] at ho49 | (simp only [Int.reduceToNat] at ho49; rw [← Ny17.out] at ho49))
                            have n0_ := Am (Kd.R_elder' (by (with_reducible repeat (first | apply rA | apply rN | apply rD)); exact HO_4.out) (Kd.R_base ho49) hb)
                            have n1_ := Am (Kd.R_elder' (by (with_reducible repeat (first | apply rA | apply rN | apply rD)); exact HO_5.out) (Kd.R_base ho49) hb)
                            have n2_ := Am (Kd.R_elder' (by (with_reducible repeat (first | apply rA | apply rN | apply rD)); exact HO13.out) (Kd.R_base ho49) hb)
                            have n3_ := Am (Kd.R_lower (Kd.R_new' (Kd.R_new' (Kd.R_new' ho49 (rL (by (with_reducible repeat (first | apply rA | apply rN | apply rD)); exact HO_4.out))) (rL (by (with_reducible repeat (first | apply rA | apply rN | apply rD)); exact HO_5.out))) (rL (by (with_reducible repeat (first | apply rA | apply rN | apply rD)); exact HO13.out))) (below_size (by repeat (first | (with_reducible first | exact HB.out | apply lA | apply lN | apply lD | refine below_set ?_ GE10.out) | exact HB.out))))
                            have n4_ := Am (blk_below (g := gb10) (o := .cells #[.int .u32 ((rd_T24 l0 xb).f0), .int .u32 ((rd_T24 l0 xb).f1)] 24 (0, 0)) (by (with_reducible repeat (first | refine blk_drewN ?_ _ | refine blk_drew ?_ | refine blk_alloc ?_ _)); exact BK10.out) hb)
                            have n5_ := Am (below_step (by repeat (first | (with_reducible first | exact HB.out | apply lA | apply lN | apply lD | refine below_set ?_ GE10.out) | exact HB.out)) hb)
                            clear HO_4
                            clear HO_5
                            clear HO13
                            clear BK10
                            clear HB
                            have HO_4 := n0_
                            have HO_5 := n1_
                            have HO13 := n2_
                            have HO19 := n3_
                            have BK10 := n4_
                            have HB := n5_
                            clear n0_ n1_ n2_ n3_ n4_ n5_
                            clear hb ho49
                            obtain ⟨Ao51, co51, eo51⟩ := Kd.R_slice HO13.out
                            (first | subst eo51 | (injection eo51 with f1_ f2_ f3_; have f4_ := f1_.symm; have f5_ := f3_.symm; clear f1_ f2_ f3_; subst f4_; subst f5_))
                            refine hK.out _ _ ⟨(blk_cell BK10.out 0).trans rfl, (blk_cell BK10.out 1).trans rfl⟩ (fun hHeld => ?_)
                            clear hK K
                            refine norm_ (a' := ?_) ?_ ?_
                            rotate_left
                            · show Act.put _ (some 39) _ = _
                              simp only [Act.put, List.setIfInBounds_toArray, List.set_cons_zero, List.set_cons_succ, i64_w, i32_w, IntKind.wrap_u32]
                              rfl
                            refine one_ (i := 5) (N := some 34) #[true, true, true, true, true, true, true, true, true, true, true, false, false, false] rfl rfl (one_of HT_.out (by kernel_rfl)) (by decide) (fun K hK => ?_)
                            refine Kd.R_append_rows_step (Kd.int .u32) (w0 := w) w.heap.size (by rfl) (.tmp 29) (.tmp 33) 31 22 (.int .u32 0) 4 rfl Try.underlying31 info22 rfl (by decide) (by omega) (.slice Ao42 x4_1.length co42) x4_1 y11 _ _ _ (fun k_ => some k_ ≠ (.slice Ao43 x5_1.length co43 : Value).ownBlock ∧ some k_ ≠ (.slice Ao51 y11.length co51 : Value).ownBlock ∧ some k_ ≠ (v18 : Value).ownBlock) (fun _ => False) rfl rfl ?aO ?aR (fun _ _ h => h) (fun _ h => h.elim) ?aF ?aB ?aS ?aL ?_
                            (case aR => repeat (first | exact (Kd.R_reads' HO13.out).2.2 | (with_reducible refine Kd.C_alloc ?_ _) | (with_reducible refine Kd.C_drewN ?_ _) | (with_reducible refine Kd.C_drew ?_)))
                            (case aB => exact (by repeat (first | (with_reducible first | exact HB.out | apply lA | apply lN | apply lD | refine below_set ?_ GE10.out) | exact HB.out)))
                            (case aF => exact (fun k_ hk => ⟨Kd.fresh' (rL (by (with_reducible repeat (first | apply rA | apply rN | apply rD)); exact HO_5.out)) k_ hk, Kd.fresh' (rL (by (with_reducible repeat (first | apply rA | apply rN | apply rD)); exact HO13.out)) k_ hk, Kd.fresh' (rL (by (with_reducible repeat (first | apply rA | apply rN | apply rD)); exact HO19.out)) k_ hk⟩))
                            (case aO => exact (by (with_reducible repeat (first | apply rA | apply rN | apply rD)); exact rM HO_4.out (fun _ hk => ⟨hk.1.1, ⟨hk.1.2, hk.2⟩⟩)))
                            (case aS => exact (below_size (by repeat (first | (with_reducible first | exact HB.out | apply lA | apply lN | apply lD | refine below_set ?_ GE10.out) | exact HB.out))))
                            (case aL => have := LMc9.out; omega)
                            intro v15 w50 ho hb hg hat
                            rw [← Ny14.out] at ho
                            have n0_ := Am (Kd.R_after (ok := (fun k_ => some k_ ≠ (.slice Ao51 y11.length co51 : Value).ownBlock ∧ some k_ ≠ (v18 : Value).ownBlock)) (by (with_reducible repeat (first | apply rA | apply rN | apply rD)); exact rM HO_5.out (fun _ hk => ⟨⟨hk.1.2, hk.2⟩, hk.1.1⟩)) hg hat)
                            have n1_ := Am (blk_grown (g := gb10) (o := .cells #[.int .u32 ((rd_T24 l0 xb).f0), .int .u32 ((rd_T24 l0 xb).f1)] 24 (0, 0)) (by (with_reducible repeat (first | refine blk_drewN ?_ _ | refine blk_drew ?_ | refine blk_alloc ?_ _)); exact BK10.out) hg (Kd.R_ne HO_4.out BK10.out (by decide)))
                            have n2_ := Am (Kd.R_after (ok := (fun k_ => some k_ ≠ (.slice Ao43 x5_1.length co43 : Value).ownBlock ∧ some k_ ≠ (v18 : Value).ownBlock)) (by (with_reducible repeat (first | apply rA | apply rN | apply rD)); exact rM HO13.out (fun _ hk => ⟨⟨hk.1.2, hk.2⟩, hk.1.1.2⟩)) hg hat)
                            have n3_ := Am (Kd.R_after (ok := (fun k_ => some k_ ≠ (.slice Ao43 x5_1.length co43 : Value).ownBlock ∧ some k_ ≠ (.slice Ao51 y11.length co51 : Value).ownBlock)) (by (with_reducible repeat (first | apply rA | apply rN | apply rD)); exact rM HO19.out (fun _ hk => ⟨⟨hk.1.2, hk.2⟩, hk.1.1.2⟩)) hg hat)
                            have n4_ := Am (hb)
                            have n5_ := Am (ho)
                            clear HO_5
                            clear BK10
                            clear HO13
                            clear HO19
                            clear HB
                            clear HO_4
                            have HO_5 := n0_
                            have BK10 := n1_
                            have HO13 := n2_
                            have HO19 := n3_
                            have HB := n4_
                            have HO16 := n5_
                            clear n0_ n1_ n2_ n3_ n4_ n5_
                            clear ho hb hg hat
                            refine hK.out _ _ ⟨(blk_cell BK10.out 0).trans rfl, (blk_cell BK10.out 1).trans rfl⟩ (fun hHeld => ?_)
                            clear hK K
                            refine norm_ (a' := ?_) ?_ ?_
                            rotate_left
                            · show Act.put _ (some 34) _ = _
                              simp only [Act.put, List.setIfInBounds_toArray, List.set_cons_zero, List.set_cons_succ, i64_w, i32_w, IntKind.wrap_u32]
                              rfl
                            exact norm_ (by simp only [putAll, Act.put, List.setIfInBounds_toArray, List.set_cons_zero, List.set_cons_succ]) (hCont (.slice Ao51 y11.length co51, v15, v18) _ ⟨hHeld, (by (with_reducible repeat (first | apply rA | apply rN | apply rD)); exact rM HO13.out (fun _ hk => ⟨hk.2, ⟨hk.1.2, hk.1.1⟩⟩)), (by (with_reducible repeat (first | apply rA | apply rN | apply rD)); exact rM HO16.out (fun _ hk => ⟨hk.2.1, ⟨hk.2.2, hk.1⟩⟩)), (by (with_reducible repeat (first | apply rA | apply rN | apply rD)); exact rM HO19.out (fun _ hk => ⟨hk.1.2, ⟨hk.2, hk.1.1⟩⟩)), (by (with_reducible repeat (first | apply rA | apply rN | apply rD)); exact rM HO_5.out (fun _ hk => ⟨hk.1.1, ⟨hk.2, hk.1.2⟩⟩)), (by (with_reducible repeat (first | refine blk_drewN ?_ _ | refine blk_drew ?_ | refine blk_alloc ?_ _)); exact BK10.out), (by repeat (first | (with_reducible first | exact HB.out | apply lA | apply lN | apply lD | refine below_set ?_ GE10.out) | exact HB.out))⟩)
                        · skip
                          refine Kd.R_lit_step (Kd.int .u32) _ 22 ?hg (N := 39) ?hd (xs := ([Int.tmod ((rd_T24 l0 xb).f0) 65536] : List Int)) (inner := [.int .u32 (Int.tmod ((rd_T24 l0 xb).f0) 65536)]) (ok := fun _ => True) (okp := fun _ => True) ?hr ?hp (fun _ hk => hk) trivial (Below.refl _ _) (Nat.le_refl _) (by simp) ?_; (case hd => rfl); (case hg => rfl); (case hr => first | (go_simp; done) | (go_simp; rfl)); (case hp => exact (Reps.one (show Kd.M (Kd.int .u32) _ _ _ (Int.tmod ((rd_T24 l0 xb).f0) 65536) [.int .u32 (Int.tmod ((rd_T24 l0 xb).f0) 65536)] from rfl) (Reps.none _ _)))
                          intro v18 w46 ho47 hb hg_ hnew_
                          clear hg_ hnew_
                          (first | rw [← Ny17.out] at ho47 | (simp only [Int.reduceToNat] at ho47; rw [← Ny17.out] at ho47))
                          have n0_ := Am (Kd.R_elder' (by (with_reducible repeat (first | apply rA | apply rN | apply rD)); exact HO_4.out) (Kd.R_base ho47) hb)
                          have n1_ := Am (Kd.R_elder' (by (with_reducible repeat (first | apply rA | apply rN | apply rD)); exact HO_5.out) (Kd.R_base ho47) hb)
                          have n2_ := Am (Kd.R_lower (Kd.R_new' (Kd.R_new' ho47 (rL (by (with_reducible repeat (first | apply rA | apply rN | apply rD)); exact HO_4.out))) (rL (by (with_reducible repeat (first | apply rA | apply rN | apply rD)); exact HO_5.out))) (below_size (by repeat (first | (with_reducible first | exact HB.out | apply lA | apply lN | apply lD | refine below_set ?_ GE10.out) | exact HB.out))))
                          have n3_ := Am (blk_below (g := gb10) (o := .cells #[.int .u32 ((rd_T24 l0 xb).f0), .int .u32 ((rd_T24 l0 xb).f1)] 24 (0, 0)) (by (with_reducible repeat (first | refine blk_drewN ?_ _ | refine blk_drew ?_ | refine blk_alloc ?_ _)); exact BK10.out) hb)
                          have n4_ := Am (below_step (by repeat (first | (with_reducible first | exact HB.out | apply lA | apply lN | apply lD | refine below_set ?_ GE10.out) | exact HB.out)) hb)
                          clear HO_4
                          clear HO_5
                          clear BK10
                          clear HB
                          have HO_4 := n0_
                          have HO_5 := n1_
                          have HO19 := n2_
                          have BK10 := n3_
                          have HB := n4_
                          clear n0_ n1_ n2_ n3_ n4_
                          clear hb ho47
                          refine hK.out _ _ ⟨(blk_cell BK10.out 0).trans rfl, (blk_cell BK10.out 1).trans rfl⟩ (fun hHeld => ?_)
                          clear hK K
                          refine norm_ (a' := ?_) ?_ ?_
                          rotate_left
                          · show Act.put _ (some 39) _ = _
                            simp only [Act.put, List.setIfInBounds_toArray, List.set_cons_zero, List.set_cons_succ, i64_w, i32_w, IntKind.wrap_u32]
                            rfl
                          refine one_ (i := 4) (N := some 33) #[true, true, true, true, true, false, true, true, true, true, true, false, false, false] rfl rfl (one_of HT_.out (by kernel_rfl)) (by decide) (fun K hK => ?_)
                          refine Kd.R_lit_step (Kd.int .u32) _ 22 ?hg (N := 33) ?hd (xs := ([(Int.tdiv ((rd_T24 l0 xb).f0) 65536) % 4294967296] : List Int)) (inner := [.int .u32 ((Int.tdiv ((rd_T24 l0 xb).f0) 65536) % 4294967296)]) (ok := fun _ => True) (okp := fun _ => True) ?hr ?hp (fun _ hk => hk) trivial (Below.refl _ _) (Nat.le_refl _) (by simp) ?_; (case hd => rfl); (case hg => rfl); (case hr => first | (go_simp; done) | (go_simp; rfl)); (case hp => exact (Reps.one (show Kd.M (Kd.int .u32) _ _ _ ((Int.tdiv ((rd_T24 l0 xb).f0) 65536) % 4294967296) [.int .u32 ((Int.tdiv ((rd_T24 l0 xb).f0) 65536) % 4294967296)] from rfl) (Reps.none _ _)))
                          intro v12 w48 ho49 hb hg_ hnew_
                          clear hg_ hnew_
                          (first | rw [← Ny11.out] at ho49 | (simp only [Int.reduceToNat] at ho49; rw [← Ny11.out] at ho49))
                          have n0_ := Am (Kd.R_elder' (by (with_reducible repeat (first | apply rA | apply rN | apply rD)); exact HO_4.out) (Kd.R_base ho49) hb)
                          have n1_ := Am (Kd.R_elder' (by (with_reducible repeat (first | apply rA | apply rN | apply rD)); exact HO_5.out) (Kd.R_base ho49) hb)
                          have n2_ := Am (Kd.R_elder' (by (with_reducible repeat (first | apply rA | apply rN | apply rD)); exact HO19.out) (Kd.R_base ho49) hb)
                          have n3_ := Am (Kd.R_lower (Kd.R_new' (Kd.R_new' (Kd.R_new' ho49 (rL (by (with_reducible repeat (first | apply rA | apply rN | apply rD)); exact HO_4.out))) (rL (by (with_reducible repeat (first | apply rA | apply rN | apply rD)); exact HO_5.out))) (rL (by (with_reducible repeat (first | apply rA | apply rN | apply rD)); exact HO19.out))) (below_size (by repeat (first | (with_reducible first | exact HB.out | apply lA | apply lN | apply lD | refine below_set ?_ GE10.out) | exact HB.out))))
                          have n4_ := Am (blk_below (g := gb10) (o := .cells #[.int .u32 ((rd_T24 l0 xb).f0), .int .u32 ((rd_T24 l0 xb).f1)] 24 (0, 0)) (by (with_reducible repeat (first | refine blk_drewN ?_ _ | refine blk_drew ?_ | refine blk_alloc ?_ _)); exact BK10.out) hb)
                          have n5_ := Am (below_step (by repeat (first | (with_reducible first | exact HB.out | apply lA | apply lN | apply lD | refine below_set ?_ GE10.out) | exact HB.out)) hb)
                          clear HO_4
                          clear HO_5
                          clear HO19
                          clear BK10
                          clear HB
                          have HO_4 := n0_
                          have HO_5 := n1_
                          have HO19 := n2_
                          have HO13 := n3_
                          have BK10 := n4_
                          have HB := n5_
                          clear n0_ n1_ n2_ n3_ n4_ n5_
                          clear hb ho49
                          obtain ⟨Ao51, co51, eo51⟩ := Kd.R_slice HO13.out
                          (first | subst eo51 | (injection eo51 with f1_ f2_ f3_; have f4_ := f1_.symm; have f5_ := f3_.symm; clear f1_ f2_ f3_; subst f4_; subst f5_))
                          refine hK.out _ _ ⟨(blk_cell BK10.out 0).trans rfl, (blk_cell BK10.out 1).trans rfl⟩ (fun hHeld => ?_)
                          clear hK K
                          refine norm_ (a' := ?_) ?_ ?_
                          rotate_left
                          · show Act.put _ (some 33) _ = _
                            simp only [Act.put, List.setIfInBounds_toArray, List.set_cons_zero, List.set_cons_succ, i64_w, i32_w, IntKind.wrap_u32]
                            rfl
                          refine one_ (i := 5) (N := some 34) #[true, true, true, true, true, true, true, true, true, true, true, false, false, false] rfl rfl (one_of HT_.out (by kernel_rfl)) (by decide) (fun K hK => ?_)
                          refine Kd.R_append_rows_step (Kd.int .u32) (w0 := w) w.heap.size (by rfl) (.tmp 29) (.tmp 33) 31 22 (.int .u32 0) 4 rfl Try.underlying31 info22 rfl (by decide) (by omega) (.slice Ao42 x4_1.length co42) x4_1 y11 _ _ _ (fun k_ => some k_ ≠ (.slice Ao43 x5_1.length co43 : Value).ownBlock ∧ some k_ ≠ (v18 : Value).ownBlock ∧ some k_ ≠ (.slice Ao51 y11.length co51 : Value).ownBlock) (fun _ => False) rfl rfl ?aO ?aR (fun _ _ h => h) (fun _ h => h.elim) ?aF ?aB ?aS ?aL ?_
                          (case aR => repeat (first | exact (Kd.R_reads' HO13.out).2.2 | (with_reducible refine Kd.C_alloc ?_ _) | (with_reducible refine Kd.C_drewN ?_ _) | (with_reducible refine Kd.C_drew ?_)))
                          (case aB => exact (by repeat (first | (with_reducible first | exact HB.out | apply lA | apply lN | apply lD | refine below_set ?_ GE10.out) | exact HB.out)))
                          (case aF => exact (fun k_ hk => ⟨Kd.fresh' (rL (by (with_reducible repeat (first | apply rA | apply rN | apply rD)); exact HO_5.out)) k_ hk, Kd.fresh' (rL (by (with_reducible repeat (first | apply rA | apply rN | apply rD)); exact HO19.out)) k_ hk, Kd.fresh' (rL (by (with_reducible repeat (first | apply rA | apply rN | apply rD)); exact HO13.out)) k_ hk⟩))
                          (case aO => exact (by (with_reducible repeat (first | apply rA | apply rN | apply rD)); exact rM HO_4.out (fun _ hk => ⟨hk.1.1, ⟨hk.1.2, hk.2⟩⟩)))
                          (case aS => exact (below_size (by repeat (first | (with_reducible first | exact HB.out | apply lA | apply lN | apply lD | refine below_set ?_ GE10.out) | exact HB.out))))
                          (case aL => have := LMc9.out; omega)
                          intro v15 w50 ho hb hg hat
                          rw [← Ny14.out] at ho
                          have n0_ := Am (Kd.R_after (ok := (fun k_ => some k_ ≠ (v18 : Value).ownBlock ∧ some k_ ≠ (.slice Ao51 y11.length co51 : Value).ownBlock)) (by (with_reducible repeat (first | apply rA | apply rN | apply rD)); exact rM HO_5.out (fun _ hk => ⟨⟨hk.1.2, hk.2⟩, hk.1.1⟩)) hg hat)
                          have n1_ := Am (blk_grown (g := gb10) (o := .cells #[.int .u32 ((rd_T24 l0 xb).f0), .int .u32 ((rd_T24 l0 xb).f1)] 24 (0, 0)) (by (with_reducible repeat (first | refine blk_drewN ?_ _ | refine blk_drew ?_ | refine blk_alloc ?_ _)); exact BK10.out) hg (Kd.R_ne HO_4.out BK10.out (by decide)))
                          have n2_ := Am (Kd.R_after (ok := (fun k_ => some k_ ≠ (.slice Ao43 x5_1.length co43 : Value).ownBlock ∧ some k_ ≠ (.slice Ao51 y11.length co51 : Value).ownBlock)) (by (with_reducible repeat (first | apply rA | apply rN | apply rD)); exact rM HO19.out (fun _ hk => ⟨⟨hk.1.2, hk.2⟩, hk.1.1.2⟩)) hg hat)
                          have n3_ := Am (Kd.R_after (ok := (fun k_ => some k_ ≠ (.slice Ao43 x5_1.length co43 : Value).ownBlock ∧ some k_ ≠ (v18 : Value).ownBlock)) (by (with_reducible repeat (first | apply rA | apply rN | apply rD)); exact rM HO13.out (fun _ hk => ⟨⟨hk.1.2, hk.2⟩, hk.1.1.2⟩)) hg hat)
                          have n4_ := Am (hb)
                          have n5_ := Am (ho)
                          clear HO_5
                          clear BK10
                          clear HO19
                          clear HO13
                          clear HB
                          clear HO_4
                          have HO_5 := n0_
                          have BK10 := n1_
                          have HO19 := n2_
                          have HO13 := n3_
                          have HB := n4_
                          have HO16 := n5_
                          clear n0_ n1_ n2_ n3_ n4_ n5_
                          clear ho hb hg hat
                          refine hK.out _ _ ⟨(blk_cell BK10.out 0).trans rfl, (blk_cell BK10.out 1).trans rfl⟩ (fun hHeld => ?_)
                          clear hK K
                          refine norm_ (a' := ?_) ?_ ?_
                          rotate_left
                          · show Act.put _ (some 34) _ = _
                            simp only [Act.put, List.setIfInBounds_toArray, List.set_cons_zero, List.set_cons_succ, i64_w, i32_w, IntKind.wrap_u32]
                            rfl
                          exact norm_ (by simp only [putAll, Act.put, List.setIfInBounds_toArray, List.set_cons_zero, List.set_cons_succ]) (hCont (.slice Ao51 y11.length co51, v15, v18) _ ⟨hHeld, (by (with_reducible repeat (first | apply rA | apply rN | apply rD)); exact rM HO13.out (fun _ hk => ⟨hk.2, ⟨hk.1.2, hk.1.1⟩⟩)), (by (with_reducible repeat (first | apply rA | apply rN | apply rD)); exact rM HO16.out (fun _ hk => ⟨hk.2.2, ⟨hk.2.1, hk.1⟩⟩)), (by (with_reducible repeat (first | apply rA | apply rN | apply rD)); exact rM HO19.out (fun _ hk => ⟨hk.1.2, ⟨hk.2, hk.1.1⟩⟩)), (by (with_reducible repeat (first | apply rA | apply rN | apply rD)); exact rM HO_5.out (fun _ hk => ⟨hk.1.2, ⟨hk.2, hk.1.1⟩⟩)), (by (with_reducible repeat (first | refine blk_drewN ?_ _ | refine blk_drew ?_ | refine blk_alloc ?_ _)); exact BK10.out), (by repeat (first | (with_reducible first | exact HB.out | apply lA | apply lN | apply lD | refine below_set ?_ GE10.out) | exact HB.out))⟩)
                      rintro ⟨v12, v15, v18⟩ w52 ⟨hS_, h0_, h1_, h2_, h3_, h4_, h5_⟩
                      have n0_ : Aside0 (Kd.R (Kd.int .u32) 22 w52 w.heap.size (fun k_ => some k_ ≠ (v15 : Value).ownBlock ∧ some k_ ≠ (v18 : Value).ownBlock ∧ some k_ ≠ (.slice Ao43 x5_1.length co43 : Value).ownBlock) v12 y11) := ⟨h0_⟩
                      have n1_ : Aside0 (Kd.R (Kd.int .u32) 22 w52 w.heap.size (fun k_ => some k_ ≠ (v12 : Value).ownBlock ∧ some k_ ≠ (v18 : Value).ownBlock ∧ some k_ ≠ (.slice Ao43 x5_1.length co43 : Value).ownBlock) v15 y14) := ⟨h1_⟩
                      have n2_ : Aside0 (Kd.R (Kd.int .u32) 22 w52 w.heap.size (fun k_ => some k_ ≠ (v12 : Value).ownBlock ∧ some k_ ≠ (v15 : Value).ownBlock ∧ some k_ ≠ (.slice Ao43 x5_1.length co43 : Value).ownBlock) v18 y17) := ⟨h2_⟩
                      have n3_ : Aside0 (Kd.R (Kd.int .u32) 22 w52 w.heap.size (fun k_ => some k_ ≠ (v12 : Value).ownBlock ∧ some k_ ≠ (v15 : Value).ownBlock ∧ some k_ ≠ (v18 : Value).ownBlock) (.slice Ao43 x5_1.length co43) x5_1) := ⟨h3_⟩
                      have n4_ : Aside0 (w52.heap[gb10]? = some (.cells #[.int .u32 ((rd_T24 l0 xb).f0), .int .u32 ((rd_T24 l0 xb).f1)] 24 (0, 0))) := ⟨h4_⟩
                      have n5_ : Aside0 (Below w.heap.size w w52) := ⟨h5_⟩
                      clear HO_4
                      clear HO_5
                      clear BK10
                      clear HB
                      clear h0_ h1_ h2_ h3_ h4_ h5_
                      have HO13 := n0_
                      have HO16 := n1_
                      have HO19 := n2_
                      have HO_5 := n3_
                      have BK10 := n4_
                      have HB := n5_
                      clear n0_ n1_ n2_ n3_ n4_ n5_
                      have hHeld : w52.cell? ⟨gb10, 0, none⟩ = some (.int .u32 ((rd_T24 l0 xb).f0)) ∧ w52.cell? ⟨gb10, 1, none⟩ = some (.int .u32 ((rd_T24 l0 xb).f1)) := hS_
                      obtain ⟨Ao54, co54, eo54⟩ := Kd.R_slice HO19.out
                      (first | subst eo54 | (injection eo54 with f1_ f2_ f3_; have f4_ := f1_.symm; have f5_ := f3_.symm; clear f1_ f2_ f3_; subst f4_; subst f5_))
                      refine norm_ (a' := ?_) ?_ ?_
                      rotate_left
                      · simp only [putAll, Act.put, List.setIfInBounds_toArray, List.set_cons_zero, List.set_cons_succ]
                        rfl
                      refine one_ (i := 11) (N := some 40) #[true, true, true, true, true, true, true, true, true, true, true, true, false, false] rfl rfl (one_of HT_.out (by kernel_rfl)) (by decide) (fun K hK => ?_)
                      refine Kd.R_append_rows_step (Kd.int .u32) (w0 := w) w.heap.size (by rfl) (.tmp 35) (.tmp 39) 31 22 (.int .u32 0) 4 rfl Try.underlying31 info22 rfl (by decide) (by omega) (.slice Ao43 x5_1.length co43) x5_1 y17 _ _ _ (fun k_ => some k_ ≠ (v12 : Value).ownBlock ∧ some k_ ≠ (v15 : Value).ownBlock ∧ some k_ ≠ (.slice Ao54 y17.length co54 : Value).ownBlock) (fun _ => False) rfl rfl ?aO ?aR (fun _ _ h => h) (fun _ h => h.elim) ?aF ?aB ?aS ?aL ?_
                      (case aR => repeat (first | exact (Kd.R_reads' HO19.out).2.2 | (with_reducible refine Kd.C_alloc ?_ _) | (with_reducible refine Kd.C_drewN ?_ _) | (with_reducible refine Kd.C_drew ?_)))
                      (case aB => exact (by repeat (first | (with_reducible first | exact HB.out | apply lA | apply lN | apply lD | refine below_set ?_ GE10.out) | exact HB.out)))
                      (case aF => exact (fun k_ hk => ⟨Kd.fresh' (rL (by (with_reducible repeat (first | apply rA | apply rN | apply rD)); exact HO13.out)) k_ hk, Kd.fresh' (rL (by (with_reducible repeat (first | apply rA | apply rN | apply rD)); exact HO16.out)) k_ hk, Kd.fresh' (rL (by (with_reducible repeat (first | apply rA | apply rN | apply rD)); exact HO19.out)) k_ hk⟩))
                      (case aO => exact (by (with_reducible repeat (first | apply rA | apply rN | apply rD)); exact HO_5.out))
                      (case aS => exact (below_size (by repeat (first | (with_reducible first | exact HB.out | apply lA | apply lN | apply lD | refine below_set ?_ GE10.out) | exact HB.out))))
                      (case aL => have := LMc10.out; omega)
                      intro v21 w53 ho hb hg hat
                      rw [← Ny20.out] at ho
                      have n0_ := Am (blk_grown (g := gb10) (o := .cells #[.int .u32 ((rd_T24 l0 xb).f0), .int .u32 ((rd_T24 l0 xb).f1)] 24 (0, 0)) (by (with_reducible repeat (first | refine blk_drewN ?_ _ | refine blk_drew ?_ | refine blk_alloc ?_ _)); exact BK10.out) hg (Kd.R_ne HO_5.out BK10.out (by decide)))
                      have n1_ := Am (Kd.R_after (ok := (fun k_ => some k_ ≠ (v15 : Value).ownBlock ∧ some k_ ≠ (.slice Ao54 y17.length co54 : Value).ownBlock)) (by (with_reducible repeat (first | apply rA | apply rN | apply rD)); exact rM HO13.out (fun _ hk => ⟨⟨hk.1, hk.2.1⟩, hk.2.2⟩)) hg hat)
                      have n2_ := Am (Kd.R_after (ok := (fun k_ => some k_ ≠ (v12 : Value).ownBlock ∧ some k_ ≠ (.slice Ao54 y17.length co54 : Value).ownBlock)) (by (with_reducible repeat (first | apply rA | apply rN | apply rD)); exact rM HO16.out (fun _ hk => ⟨⟨hk.1, hk.2.1⟩, hk.2.2⟩)) hg hat)
                      have n3_ := Am (Kd.R_after (ok := (fun k_ => some k_ ≠ (v12 : Value).ownBlock ∧ some k_ ≠ (v15 : Value).ownBlock)) (by (with_reducible repeat (first | apply rA | apply rN | apply rD)); exact rM HO19.out (fun _ hk => ⟨⟨hk.1, hk.2.1⟩, hk.2.2⟩)) hg hat)
                      have n4_ := Am (hb)
                      have n5_ := Am (ho)
                      clear BK10
                      clear HO13
                      clear HO16
                      clear HO19
                      clear HB
                      clear HO_5
                      have BK10 := n0_
                      have HO13 := n1_
                      have HO16 := n2_
                      have HO19 := n3_
                      have HB := n4_
                      have HO22 := n5_
                      clear n0_ n1_ n2_ n3_ n4_ n5_
                      clear ho hb hg hat
                      refine hK.out _ _ ⟨(blk_cell BK10.out 0).trans rfl, (blk_cell BK10.out 1).trans rfl⟩ (fun hHeld => ?_)
                      clear hK K
                      refine norm_ (a' := ?_) ?_ ?_
                      rotate_left
                      · show Act.put _ (some 40) _ = _
                        simp only [Act.put, List.setIfInBounds_toArray, List.set_cons_zero, List.set_cons_succ, i64_w, i32_w, IntKind.wrap_u32]
                        rfl
                      refine pure_ (i := 12) (N := some 4) (v := ?_) (a' := ?_) #[true, true, true, true, true, true, true, true, true, true, true, true, true, false] rfl rfl (any_of HT_.out (by kernel_rfl)) (fun _ _ _ h => h) (Or.inl ⟨by rfl, ?_⟩) ?_ ?_
                      rotate_left
                      · intro w'
                        go_simp
                        with_reducible rfl
                      rotate_left
                      · simp only [Act.put, List.setIfInBounds_toArray, List.set_cons_zero, List.set_cons_succ, i64_w, i32_w, IntKind.wrap_u32]
                        rfl
                      refine pure_ (i := 13) (N := some 5) (v := ?_) (a' := ?_) #[true, true, true, true, true, true, true, true, true, true, true, true, true, true] rfl rfl (any_of HT_.out (by kernel_rfl)) (fun _ _ _ h => h) (Or.inl ⟨by rfl, ?_⟩) ?_ ?_
                      rotate_left
                      · intro w'
                        go_simp
                        with_reducible rfl
                      rotate_left
                      · simp only [Act.put, List.setIfInBounds_toArray, List.set_cons_zero, List.set_cons_succ, i64_w, i32_w, IntKind.wrap_u32]
                        rfl
                      refine done_ (done_of HT_.out (by kernel_rfl)) ?_
                      have hcz55_0 : w53.cell? ⟨gb10, 0, none⟩ = some (.int .u32 ((rd_T24 l0 xb).f0)) := (blk_cell BK10.out 0).trans rfl
                      have hcz55_1 : w53.cell? ⟨gb10, 1, none⟩ = some (.int .u32 ((rd_T24 l0 xb).f1)) := (blk_cell BK10.out 1).trans rfl
                      have hfz55_0 := blk_frozen BK10.out 0
                      have hfz55_1 := blk_frozen BK10.out 1
                      try go_wp2_with (first | ((with_reducible refine gate_dst (N := 49) rfl ?_); refine Kd.R_lit (Kd.int .u32) _ 22 ?hg (N := 49) ?hd (xs := ([((Int.tdiv ((rd_T24 l0 xb).f1) 65536) + 1) % 4294967296] : List Int)) (inner := [.int .u32 (((Int.tdiv ((rd_T24 l0 xb).f1) 65536) + 1) % 4294967296)]) (ok := fun _ => True) (okp := fun _ => True) ?hr ?hp (fun _ hk => hk) trivial (Below.refl _ _) (Nat.le_refl _) (by simp) ?_; (case hd => rfl); (case hg => rfl); (case hr => first | (go_simp; done) | (go_simp; rfl)); (case hp => exact (Reps.one (show Kd.M (Kd.int .u32) _ _ _ (((Int.tdiv ((rd_T24 l0 xb).f1) 65536) + 1) % 4294967296) [.int .u32 (((Int.tdiv ((rd_T24 l0 xb).f1) 65536) + 1) % 4294967296)] from rfl) (Reps.none _ _))); intro v24 w56 ho57 hb hg_ hnew_; clear hg_ hnew_; (first | rw [← Ny23.out] at ho57 | (simp only [Int.reduceToNat] at ho57; rw [← Ny23.out] at ho57)); have n0_ := Am (Kd.R_elder' (by (with_reducible repeat (first | apply rA | apply rN | apply rD)); exact HO13.out) (Kd.R_base ho57) hb); have n1_ := Am (Kd.R_elder' (by (with_reducible repeat (first | apply rA | apply rN | apply rD)); exact HO16.out) (Kd.R_base ho57) hb); have n2_ := Am (Kd.R_elder' (by (with_reducible repeat (first | apply rA | apply rN | apply rD)); exact HO19.out) (Kd.R_base ho57) hb); have n3_ := Am (Kd.R_elder' (by (with_reducible repeat (first | apply rA | apply rN | apply rD)); exact HO22.out) (Kd.R_base ho57) hb); have n4_ := Am (Kd.R_lower (Kd.R_new' (Kd.R_new' (Kd.R_new' (Kd.R_new' ho57 (rL (by (with_reducible repeat (first | apply rA | apply rN | apply rD)); exact HO13.out))) (rL (by (with_reducible repeat (first | apply rA | apply rN | apply rD)); exact HO16.out))) (rL (by (with_reducible repeat (first | apply rA | apply rN | apply rD)); exact HO19.out))) (rL (by (with_reducible repeat (first | apply rA | apply rN | apply rD)); exact HO22.out))) (below_size (by repeat (first | (with_reducible first | exact HB.out | apply lA | apply lN | apply lD | refine below_set ?_ GE10.out) | exact HB.out)))); have n5_ := Am (blk_below (g := gb10) (o := .cells #[.int .u32 ((rd_T24 l0 xb).f0), .int .u32 ((rd_T24 l0 xb).f1)] 24 (0, 0)) (by (with_reducible repeat (first | refine blk_drewN ?_ _ | refine blk_drew ?_ | refine blk_alloc ?_ _)); exact BK10.out) hb); have n6_ := Am (below_step (by repeat (first | (with_reducible first | exact HB.out | apply lA | apply lN | apply lD | refine below_set ?_ GE10.out) | exact HB.out)) hb); clear HO13; clear HO16; clear HO19; clear HO22; clear BK10; clear HB; have HO13 := n0_; have HO16 := n1_; have HO19 := n2_; have HO22 := n3_; have HO25 := n4_; have BK10 := n5_; have HB := n6_; clear n0_ n1_ n2_ n3_ n4_ n5_ n6_; clear hb ho57; obtain ⟨Ao59, co59, eo59⟩ := Kd.R_slice HO25.out; subst eo59) | ((with_reducible refine gate_builtin (b := .append) (xs := #[.tmp 47, .tmp 49]) rfl ?_); at_builtin; refine Kd.R_append_rows (Kd.int .u32) (w0 := w) w.heap.size rfl (.tmp 47) (.tmp 49) 31 22 (.int .u32 0) 4 rfl Try.underlying31 info22 rfl (by decide) (by omega) v15 y14 y23 _ _ _ (fun k_ => some k_ ≠ (v12 : Value).ownBlock ∧ some k_ ≠ (.slice Ao54 y17.length co54 : Value).ownBlock ∧ some k_ ≠ (v21 : Value).ownBlock ∧ some k_ ≠ (.slice Ao59 y23.length co59 : Value).ownBlock) (fun _ => False) rfl rfl ?aO ?aR (fun _ _ h => h) (fun _ h => h.elim) ?aF ?aB ?aS ?aL ?_; (case aR => repeat (first | exact (Kd.R_reads' HO25.out).2.2 | (with_reducible refine Kd.C_alloc ?_ _) | (with_reducible refine Kd.C_drewN ?_ _) | (with_reducible refine Kd.C_drew ?_))); (case aB => exact (by repeat (first | (with_reducible first | exact HB.out | apply lA | apply lN | apply lD | refine below_set ?_ GE10.out) | exact HB.out))); (case aF => exact (fun k_ hk => ⟨Kd.fresh' (rL (by (with_reducible repeat (first | apply rA | apply rN | apply rD)); exact HO13.out)) k_ hk, Kd.fresh' (rL (by (with_reducible repeat (first | apply rA | apply rN | apply rD)); exact HO19.out)) k_ hk, Kd.fresh' (rL (by (with_reducible repeat (first | apply rA | apply rN | apply rD)); exact HO22.out)) k_ hk, Kd.fresh' (rL (by (with_reducible repeat (first | apply rA | apply rN | apply rD)); exact HO25.out)) k_ hk⟩)); (case aO => exact (by (with_reducible repeat (first | apply rA | apply rN | apply rD)); exact rM HO16.out (fun _ hk => ⟨hk.1.1.1, ⟨hk.1.1.2, ⟨hk.1.2, hk.2⟩⟩⟩))); (case aS => exact (below_size (by repeat (first | (with_reducible first | exact HB.out | apply lA | apply lN | apply lD | refine below_set ?_ GE10.out) | exact HB.out)))); (case aL => have := LMc12.out; omega); intro v27 w58 ho hb hg hat; rw [← Ny26.out] at ho; have n0_ := Am (blk_grown (g := gb10) (o := .cells #[.int .u32 ((rd_T24 l0 xb).f0), .int .u32 ((rd_T24 l0 xb).f1)] 24 (0, 0)) (by (with_reducible repeat (first | refine blk_drewN ?_ _ | refine blk_drew ?_ | refine blk_alloc ?_ _)); exact BK10.out) hg (Kd.R_ne HO16.out BK10.out (by decide))); have n1_ := Am (Kd.R_after (ok := (fun k_ => some k_ ≠ (.slice Ao54 y17.length co54 : Value).ownBlock ∧ some k_ ≠ (v21 : Value).ownBlock ∧ some k_ ≠ (.slice Ao59 y23.length co59 : Value).ownBlock)) (by (with_reducible repeat (first | apply rA | apply rN | apply rD)); exact rM HO13.out (fun _ hk => ⟨⟨hk.1.1.2, ⟨hk.1.2, hk.2⟩⟩, hk.1.1.1⟩)) hg hat); have n2_ := Am (Kd.R_after (ok := (fun k_ => some k_ ≠ (v12 : Value).ownBlock ∧ some k_ ≠ (v21 : Value).ownBlock ∧ some k_ ≠ (.slice Ao59 y23.length co59 : Value).ownBlock)) (by (with_reducible repeat (first | apply rA | apply rN | apply rD)); exact rM HO19.out (fun _ hk => ⟨⟨hk.1.1.1, ⟨hk.1.2, hk.2⟩⟩, hk.1.1.2⟩)) hg hat); have n3_ := Am (Kd.R_after (ok := (fun k_ => some k_ ≠ (v12 : Value).ownBlock ∧ some k_ ≠ (.slice Ao54 y17.length co54 : Value).ownBlock ∧ some k_ ≠ (.slice Ao59 y23.length co59 : Value).ownBlock)) (by (with_reducible repeat (first | apply rA | apply rN | apply rD)); exact rM HO22.out (fun _ hk => ⟨⟨hk.1.1, ⟨hk.1.2.2, hk.2⟩⟩, hk.1.2.1⟩)) hg hat); have n4_ := Am (Kd.R_after (ok := (fun k_ => some k_ ≠ (v12 : Value).ownBlock ∧ some k_ ≠ (.slice Ao54 y17.length co54 : Value).ownBlock ∧ some k_ ≠ (v21 : Value).ownBlock)) (by (with_reducible repeat (first | apply rA | apply rN | apply rD)); exact rM HO25.out (fun _ hk => ⟨⟨hk.1.1.1.2, ⟨hk.1.2, hk.2⟩⟩, hk.1.1.2⟩)) hg hat); have n5_ := Am (hb); have n6_ := Am (ho); clear BK10; clear HO13; clear HO19; clear HO22; clear HO25; clear HB; clear HO16; have BK10 := n0_; have HO13 := n1_; have HO19 := n2_; have HO22 := n3_; have HO25 := n4_; have HB := n5_; have HO28 := n6_; clear n0_ n1_ n2_ n3_ n4_ n5_ n6_; clear ho hb hg hat; have hcz60_0 : w58.cell? ⟨gb10, 0, none⟩ = some (.int .u32 ((rd_T24 l0 xb).f0)) := (blk_cell BK10.out 0).trans rfl; have hcz60_1 : w58.cell? ⟨gb10, 1, none⟩ = some (.int .u32 ((rd_T24 l0 xb).f1)) := (blk_cell BK10.out 1).trans rfl; have hfz60_0 := blk_frozen BK10.out 0; have hfz60_1 := blk_frozen BK10.out 1))
                      go_roundg k1
                      case measure => have := HK1.out; omega
                      case rel => exact ⟨(y26), (y20), (wrap64 (xb + 1)), (by first | rfl | (simp; done) | (simp [*]; done)), H', ⟨by have := HK1.out; omega⟩, ⟨by (with_reducible repeat (first | apply rA | apply rN | apply rD)); exact rM HO28.out (fun _ hk => hk.2.2.1)⟩, ⟨by (with_reducible repeat (first | apply rA | apply rN | apply rD)); exact rM HO22.out (fun _ hk => hk.2)⟩, ⟨by repeat (first | (with_reducible first | exact HB.out | apply lA | apply lN | apply lD | refine below_set ?_ GE10.out) | exact HB.out)⟩⟩
                  · rw [if_neg c12] at H
                    exact absurd H (by simp)
                · rw [if_neg c11] at H
                  have c11b0 : decide ((((Int.tdiv ((rd_T24 l0 xb).f1) 65536) + 1) % 4294967296) < 65536) = false := decide_eq_false c11
                  clear c11
                  by_cases c61 : (((Int.tmod ((rd_T24 l0 xb).f1) 65536) + 1) % 4294967296) < 65536
                  · rw [if_pos c61] at H
                    have c61b0 : decide ((((Int.tmod ((rd_T24 l0 xb).f1) 65536) + 1) % 4294967296) < 65536) = true := decide_eq_true c61
                    clear c61
                    obtain ⟨y35, hy35⟩ : ∃ y_ : List Int, y_ = (([((Int.tmod ((rd_T24 l0 xb).f1) 65536) + 1) % 4294967296] : List Int)) := ⟨_, rfl⟩
                    replace H : (if y20.length + y35.length < 35184372088832 then (cells_half.l0 k1 y14 (y20 ++ y35) l0 (l0.length : Int) (wrap64 (xb + 1))) else (none)) = some (r1, r2) := by first | (rw [hy35]; with_reducible exact H) | (have H2_ := (Option.bind_some _ _).symm.trans H; rw [hy35]; with_reducible exact H2_) | (have H2_ := (Option.bind_some _ _).symm.trans H; with_reducible exact H2_) | with_reducible exact H | (rw [hy35]; exact H) | exact H
                    have Ny35 := Am hy35
                    clear hy35
                    by_cases c62 : y20.length + y35.length < 35184372088832
                    · rw [if_pos c62] at H
                      have LMc62 := Am c62
                      clear c62
                      obtain ⟨y38, hy38⟩ : ∃ y_ : List Int, y_ = (y20 ++ y35) := ⟨_, rfl⟩
                      replace H : (cells_half.l0 k1 y14 y38 l0 (l0.length : Int) (wrap64 (xb + 1))) = some (r1, r2) := by first | (rw [hy38]; with_reducible exact H) | (have H2_ := (Option.bind_some _ _).symm.trans H; rw [hy38]; with_reducible exact H2_) | (have H2_ := (Option.bind_some _ _).symm.trans H; with_reducible exact H2_) | with_reducible exact H | (rw [hy38]; exact H) | exact H
                      have Ny38 := Am hy38
                      clear hy38
                      have H' := Am H
                      clear H
                      have p9 : 0 ≤ (xb : Int) := of_decide_eq_true (by first | (with_reducible assumption) | assumption)
                      have q9 : xb < (l0.length : Int) := of_decide_eq_true (by first | (with_reducible assumption) | assumption)
                      obtain ⟨ad9, e9, hx9_0, hx9_1⟩ := at_T24 HR0.out xb p9 q9
                      cases e9
                      replace hx9_0 := (HB.out.cell (World.block_lt_of_cell? w _ hx9_0)).trans hx9_0
                      replace hx9_1 := (HB.out.cell (World.block_lt_of_cell? w _ hx9_1)).trans hx9_1
                      replace p9 := eq_true p9
                      replace q9 := eq_true q9
                      try go_wp2_with (first | ((with_reducible refine gate_dst (N := 7) rfl ?_); refine box_event ?hg (N := 7) ?hd (cs := #[.int .u32 0, .int .u32 0]) (t := 24) ?hr ?_; (case hd => rfl); (case hg => rfl); (case hr => first | (go_simp; done) | (go_simp; rfl)); intro gb10 hg w63 hbox hb; have n0_ := Am (Kd.R_below (by (with_reducible repeat (first | apply rA | apply rN | apply rD)); exact HO_4.out) hb); have n1_ := Am (Kd.R_below (by (with_reducible repeat (first | apply rA | apply rN | apply rD)); exact HO_5.out) hb); have n2_ := Am (below_step (by repeat (first | (with_reducible first | exact HB.out | apply lA | apply lN | apply lD) | exact HB.out)) hb); have n3_ := Am (hbox); have n4_ := Am ((by rw [hg]; exact (below_size (by repeat (first | (with_reducible first | exact HB.out | apply lA | apply lN | apply lD) | exact HB.out))) : w.heap.size ≤ gb10)); have n5_ := Am ((by rw [hg]; exact (below_size (by repeat (first | (with_reducible first | exact HB.out | apply lA | apply lN | apply lD) | exact HB.out))) : w.heap.size ≤ gb10)); clear HO_4; clear HO_5; clear HB; have HO_4 := n0_; have HO_5 := n1_; have HB := n2_; have BK10 := n3_; have GW10 := n4_; have GE10 := n5_; clear n0_ n1_ n2_ n3_ n4_ n5_; clear hb hbox hg; have hcz64_0 : w63.cell? ⟨gb10, 0, none⟩ = some (.int .u32 0) := (blk_cell BK10.out 0).trans rfl; have hcz64_1 : w63.cell? ⟨gb10, 1, none⟩ = some (.int .u32 0) := (blk_cell BK10.out 1).trans rfl; have hfz64_0 := blk_frozen BK10.out 0; have hfz64_1 := blk_frozen BK10.out 1; obtain ⟨Ao65, co65, eo65⟩ := Kd.R_slice HO_4.out; subst eo65; obtain ⟨Ao66, co66, eo66⟩ := Kd.R_slice HO_5.out; subst eo66))
                      have n0_ : Aside0 (Kd.R (Kd.int .u32) 22 ((w63.setCell ⟨gb10, 0, none⟩ (.int .u32 ((rd_T24 l0 xb).f0))).setCell ⟨gb10, 1, none⟩ (.int .u32 ((rd_T24 l0 xb).f1))) w.heap.size (fun k_ => some k_ ≠ (.slice Ao66 x5_1.length co66 : Value).ownBlock) (.slice Ao65 x4_1.length co65) x4_1) := ⟨by (with_reducible repeat (first | apply rA | apply rN | apply rD)); exact rM (Kd.R_far (p := ⟨gb10, 1, none⟩) (Kd.R_far (p := ⟨gb10, 0, none⟩) (Kd.R_types HO_4.out BK10.out (by decide)) (fun _ hk => hk.2) (.int .u32 ((rd_T24 l0 xb).f0))) (fun _ hk => hk.2) (.int .u32 ((rd_T24 l0 xb).f1))) (fun _ hk => hk.1)⟩
                      have n1_ : Aside0 (Kd.R (Kd.int .u32) 22 ((w63.setCell ⟨gb10, 0, none⟩ (.int .u32 ((rd_T24 l0 xb).f0))).setCell ⟨gb10, 1, none⟩ (.int .u32 ((rd_T24 l0 xb).f1))) w.heap.size (fun k_ => some k_ ≠ (.slice Ao65 x4_1.length co65 : Value).ownBlock) (.slice Ao66 x5_1.length co66) x5_1) := ⟨by (with_reducible repeat (first | apply rA | apply rN | apply rD)); exact rM (Kd.R_far (p := ⟨gb10, 1, none⟩) (Kd.R_far (p := ⟨gb10, 0, none⟩) (Kd.R_types HO_5.out BK10.out (by decide)) (fun _ hk => hk.2) (.int .u32 ((rd_T24 l0 xb).f0))) (fun _ hk => hk.2) (.int .u32 ((rd_T24 l0 xb).f1))) (fun _ hk => hk.1)⟩
                      have n2_ : Aside0 (((w63.setCell ⟨gb10, 0, none⟩ (.int .u32 ((rd_T24 l0 xb).f0))).setCell ⟨gb10, 1, none⟩ (.int .u32 ((rd_T24 l0 xb).f1))).heap[gb10]? = some (.cells #[.int .u32 ((rd_T24 l0 xb).f0), .int .u32 ((rd_T24 l0 xb).f1)] 24 (0, 0))) := ⟨by (with_reducible repeat (first | refine blk_drewN ?_ _ | refine blk_drew ?_ | refine blk_alloc ?_ _)); refine blk_put (cs := #[.int .u32 ((rd_T24 l0 xb).f0), .int .u32 0]) ?_ 1 _ rfl; (with_reducible repeat (first | refine blk_drewN ?_ _ | refine blk_drew ?_ | refine blk_alloc ?_ _)); refine blk_put (cs := #[.int .u32 0, .int .u32 0]) ?_ 0 _ rfl; (with_reducible repeat (first | refine blk_drewN ?_ _ | refine blk_drew ?_ | refine blk_alloc ?_ _)); exact BK10.out⟩
                      have n3_ : Aside0 (Below w.heap.size w ((w63.setCell ⟨gb10, 0, none⟩ (.int .u32 ((rd_T24 l0 xb).f0))).setCell ⟨gb10, 1, none⟩ (.int .u32 ((rd_T24 l0 xb).f1)))) := ⟨by repeat (first | (with_reducible first | exact HB.out | apply lA | apply lN | apply lD | refine below_set ?_ GE10.out) | exact HB.out)⟩
                      (try clear HO_4)
                      (try clear HO_5)
                      (try clear BK10)
                      (try clear HB)
                      generalize ((w63.setCell ⟨gb10, 0, none⟩ (.int .u32 ((rd_T24 l0 xb).f0))).setCell ⟨gb10, 1, none⟩ (.int .u32 ((rd_T24 l0 xb).f1))) = w67 at n0_ n1_ n2_ n3_ ⊢
                      have HO_4 := n0_
                      have HO_5 := n1_
                      have BK10 := n2_
                      have HB := n3_
                      clear n0_ n1_ n2_ n3_
                      have n0_ := Am (Kd.R_drew HO_4.out)
                      have n1_ := Am (Kd.R_drew HO_5.out)
                      have n2_ := Am (blk_drew BK10.out)
                      have n3_ := Am (lD HB.out)
                      clear HO_4
                      clear HO_5
                      clear BK10
                      clear HB
                      have HO_4 := n0_
                      have HO_5 := n1_
                      have BK10 := n2_
                      have HB := n3_
                      clear n0_ n1_ n2_ n3_
                      refine start_ (n := 14) (S := fun w' => w'.cell? ⟨gb10, 0, none⟩ = some (.int .u32 ((rd_T24 l0 xb).f0)) ∧ w'.cell? ⟨gb10, 1, none⟩ = some (.int .u32 ((rd_T24 l0 xb).f1))) (ds := []) #[false, false, false, false, false, false, false, false, false, false, false, false, false, false] (by kernel_rfl) rfl rfl ⟨(blk_cell BK10.out 0).trans rfl, (blk_cell BK10.out 1).trans rfl⟩ (fun hHeld => ?_); refine with_tabW cells_half.tab7 cells_half.bits7 (fun HT_ HW_ => ?_)
                      generalize w67.drew = w68 at HO_4 HO_5 BK10 HB hHeld ⊢
                      refine pure_ (i := 0) (N := some 29) (v := ?_) (a' := ?_) #[true, false, false, false, false, false, false, false, false, false, false, false, false, false] rfl rfl (any_of HT_.out (by kernel_rfl)) (fun _ _ _ h => h) (Or.inl ⟨by rfl, ?_⟩) ?_ ?_
                      rotate_left
                      · intro w'
                        go_simp
                        with_reducible rfl
                      rotate_left
                      · simp only [Act.put, List.setIfInBounds_toArray, List.set_cons_zero, List.set_cons_succ, i64_w, i32_w, IntKind.wrap_u32]
                        rfl
                      refine pure_ (i := 1) (N := some 30) (v := ?_) (a' := ?_) #[true, true, false, false, false, false, false, false, false, false, false, false, false, false] rfl rfl (any_of HT_.out (by kernel_rfl)) (fun _ _ _ h => h) (Or.inl ⟨by rfl, ?_⟩) ?_ ?_
                      rotate_left
                      · intro w'
                        go_simp
                        with_reducible rfl
                      rotate_left
                      · simp only [Act.put, List.setIfInBounds_toArray, List.set_cons_zero, List.set_cons_succ, i64_w, i32_w, IntKind.wrap_u32]
                        rfl
                      refine pure_ (i := 6) (N := some 35) (v := ?_) (a' := ?_) #[true, true, false, false, false, false, true, false, false, false, false, false, false, false] rfl rfl (any_of HT_.out (by kernel_rfl)) (fun _ _ _ h => h) (Or.inl ⟨by rfl, ?_⟩) ?_ ?_
                      rotate_left
                      · intro w'
                        go_simp
                        with_reducible rfl
                      rotate_left
                      · simp only [Act.put, List.setIfInBounds_toArray, List.set_cons_zero, List.set_cons_succ, i64_w, i32_w, IntKind.wrap_u32]
                        rfl
                      refine pure_ (i := 7) (N := some 36) (v := ?_) (a' := ?_) #[true, true, false, false, false, false, true, true, false, false, false, false, false, false] rfl rfl (any_of HT_.out (by kernel_rfl)) (fun _ _ _ h => h) (Or.inl ⟨by rfl, ?_⟩) ?_ ?_
                      rotate_left
                      · intro w'
                        go_simp
                        with_reducible rfl
                      rotate_left
                      · simp only [Act.put, List.setIfInBounds_toArray, List.set_cons_zero, List.set_cons_succ, i64_w, i32_w, IntKind.wrap_u32]
                        rfl
                      refine take_ (i := 2) (N := some 31) (v := ?_) (a' := ?_) #[true, true, true, false, false, false, true, true, false, false, false, false, false, false] rfl rfl (take_ofW HT_.out HW_.out (by kernel_rfl)) (fun _ _ _ h => h) (Or.inl ⟨by rfl, ?_⟩) hHeld ?_ ?_
                      rotate_left
                      · rintro w' ⟨s0, s1⟩
                        go_simp
                        with_reducible rfl
                      rotate_left
                      · simp only [Act.put, List.setIfInBounds_toArray, List.set_cons_zero, List.set_cons_succ, i64_w, i32_w, IntKind.wrap_u32]
                        rfl
                      refine pure_ (i := 3) (N := some 32) (v := ?_) (a' := ?_) #[true, true, true, true, false, false, true, true, false, false, false, false, false, false] rfl rfl (any_of HT_.out (by kernel_rfl)) (fun _ _ _ h => h) (Or.inl ⟨by rfl, ?_⟩) ?_ ?_
                      rotate_left
                      · intro w'
                        go_simp
                        with_reducible rfl
                      rotate_left
                      · simp only [Act.put, List.setIfInBounds_toArray, List.set_cons_zero, List.set_cons_succ, i64_w, i32_w, IntKind.wrap_u32]
                        rfl
                      refine take_ (i := 8) (N := some 37) (v := ?_) (a' := ?_) #[true, true, true, true, false, false, true, true, true, false, false, false, false, false] rfl rfl (take_ofW HT_.out HW_.out (by kernel_rfl)) (fun _ _ _ h => h) (Or.inl ⟨by rfl, ?_⟩) hHeld ?_ ?_
                      rotate_left
                      · rintro w' ⟨s0, s1⟩
                        go_simp
                        with_reducible rfl
                      rotate_left
                      · simp only [Act.put, List.setIfInBounds_toArray, List.set_cons_zero, List.set_cons_succ, i64_w, i32_w, IntKind.wrap_u32]
                        rfl
                      refine pure_ (i := 9) (N := some 38) (v := ?_) (a' := ?_) #[true, true, true, true, false, false, true, true, true, true, false, false, false, false] rfl rfl (any_of HT_.out (by kernel_rfl)) (fun _ _ _ h => h) (Or.inl ⟨by rfl, ?_⟩) ?_ ?_
                      rotate_left
                      · intro w'
                        go_simp
                        with_reducible rfl
                      rotate_left
                      · simp only [Act.put, List.setIfInBounds_toArray, List.set_cons_zero, List.set_cons_succ, i64_w, i32_w, IntKind.wrap_u32]
                        rfl
                      refine join_ (σ := Value × Value × Value) 3 #[true, true, true, true, true, true, true, true, true, true, true, false, false, false] (fun s_ => [(33, s_.1), (34, s_.2.1), (39, s_.2.2)]) (fun s_ w' => (w'.cell? ⟨gb10, 0, none⟩ = some (.int .u32 ((rd_T24 l0 xb).f0)) ∧ w'.cell? ⟨gb10, 1, none⟩ = some (.int .u32 ((rd_T24 l0 xb).f1))) ∧ (Kd.R (Kd.int .u32) 22 w' w.heap.size (fun k_ => some k_ ≠ (s_.2.1 : Value).ownBlock ∧ some k_ ≠ (s_.2.2 : Value).ownBlock ∧ some k_ ≠ (.slice Ao66 x5_1.length co66 : Value).ownBlock) s_.1 y11) ∧ (Kd.R (Kd.int .u32) 22 w' w.heap.size (fun k_ => some k_ ≠ (s_.1 : Value).ownBlock ∧ some k_ ≠ (s_.2.2 : Value).ownBlock ∧ some k_ ≠ (.slice Ao66 x5_1.length co66 : Value).ownBlock) s_.2.1 y14) ∧ (Kd.R (Kd.int .u32) 22 w' w.heap.size (fun k_ => some k_ ≠ (s_.1 : Value).ownBlock ∧ some k_ ≠ (s_.2.1 : Value).ownBlock ∧ some k_ ≠ (.slice Ao66 x5_1.length co66 : Value).ownBlock) s_.2.2 y17) ∧ (Kd.R (Kd.int .u32) 22 w' w.heap.size (fun k_ => some k_ ≠ (s_.1 : Value).ownBlock ∧ some k_ ≠ (s_.2.1 : Value).ownBlock ∧ some k_ ≠ (s_.2.2 : Value).ownBlock) (.slice Ao66 x5_1.length co66) x5_1) ∧ (w'.heap[gb10]? = some (.cells #[.int .u32 ((rd_T24 l0 xb).f0), .int .u32 ((rd_T24 l0 xb).f1)] 24 (0, 0))) ∧ (Below w.heap.size w w')) ?_ ?_
                      rotate_left
                      · intro hCont
                        refine two_ (i := 4) (j := 10) (Ni := some 33) (Nj := some 39) #[true, true, true, true, true, false, true, true, true, true, false, false, false, false] #[true, true, true, true, false, false, true, true, true, true, true, false, false, false] rfl rfl rfl rfl (two_of HT_.out (by kernel_rfl)) (by decide) (by decide) (fun K hK => ?_) (fun K hK => ?_)
                        · skip
                          refine Kd.R_lit_step (Kd.int .u32) _ 22 ?hg (N := 33) ?hd (xs := ([(Int.tdiv ((rd_T24 l0 xb).f0) 65536) % 4294967296] : List Int)) (inner := [.int .u32 ((Int.tdiv ((rd_T24 l0 xb).f0) 65536) % 4294967296)]) (ok := fun _ => True) (okp := fun _ => True) ?hr ?hp (fun _ hk => hk) trivial (Below.refl _ _) (Nat.le_refl _) (by simp) ?_; (case hd => rfl); (case hg => rfl); (case hr => first | (go_simp; done) | (go_simp; rfl)); (case hp => exact (Reps.one (show Kd.M (Kd.int .u32) _ _ _ ((Int.tdiv ((rd_T24 l0 xb).f0) 65536) % 4294967296) [.int .u32 ((Int.tdiv ((rd_T24 l0 xb).f0) 65536) % 4294967296)] from rfl) (Reps.none _ _)))
                          intro v12 w69 ho70 hb hg_ hnew_
                          clear hg_ hnew_
                          (first | rw [← Ny11.out] at ho70 | (simp only [Int.reduceToNat] at ho70; rw [← Ny11.out] at ho70))
                          have n0_ := Am (Kd.R_elder' (by (with_reducible repeat (first | apply rA | apply rN | apply rD)); exact HO_4.out) (Kd.R_base ho70) hb)
                          have n1_ := Am (Kd.R_elder' (by (with_reducible repeat (first | apply rA | apply rN | apply rD)); exact HO_5.out) (Kd.R_base ho70) hb)
                          have n2_ := Am (Kd.R_lower (Kd.R_new' (Kd.R_new' ho70 (rL (by (with_reducible repeat (first | apply rA | apply rN | apply rD)); exact HO_4.out))) (rL (by (with_reducible repeat (first | apply rA | apply rN | apply rD)); exact HO_5.out))) (below_size (by repeat (first | (with_reducible first | exact HB.out | apply lA | apply lN | apply lD | refine below_set ?_ GE10.out) | exact HB.out))))
                          have n3_ := Am (blk_below (g := gb10) (o := .cells #[.int .u32 ((rd_T24 l0 xb).f0), .int .u32 ((rd_T24 l0 xb).f1)] 24 (0, 0)) (by (with_reducible repeat (first | refine blk_drewN ?_ _ | refine blk_drew ?_ | refine blk_alloc ?_ _)); exact BK10.out) hb)
                          have n4_ := Am (below_step (by repeat (first | (with_reducible first | exact HB.out | apply lA | apply lN | apply lD | refine below_set ?_ GE10.out) | exact HB.out)) hb)
                          clear HO_4
                          clear HO_5
                          clear BK10
                          clear HB
                          have HO_4 := n0_
                          have HO_5 := n1_
                          have HO13 := n2_
                          have BK10 := n3_
                          have HB := n4_
                          clear n0_ n1_ n2_ n3_ n4_
                          clear hb ho70
                          obtain ⟨Ao72, co72, eo72⟩ := Kd.R_slice HO13.out
                          (first | subst eo72 | (injection eo72 with f1_ f2_ f3_; have f4_ := f1_.symm; have f5_ := f3_.symm; clear f1_ f2_ f3_; subst f4_; subst f5_))
                          refine hK.out _ _ ⟨(blk_cell BK10.out 0).trans rfl, (blk_cell BK10.out 1).trans rfl⟩ (fun hHeld => ?_)
                          clear hK K
                          refine norm_ (a' := ?_) ?_ ?_
                          rotate_left
                          · show Act.put _ (some 33) _ = _
                            simp only [Act.put, List.setIfInBounds_toArray, List.set_cons_zero, List.set_cons_succ, i64_w, i32_w, IntKind.wrap_u32]
                            rfl
                          refine two_ (i := 5) (j := 10) (Ni := some 34) (Nj := some 39) #[true, true, true, true, true, true, true, true, true, true, false, false, false, false] #[true, true, true, true, true, false, true, true, true, true, true, false, false, false] rfl rfl rfl rfl (two_of HT_.out (by kernel_rfl)) (by decide) (by decide) (fun K hK => ?_) (fun K hK => ?_)
                          · skip
                            refine Kd.R_append_rows_step (Kd.int .u32) (w0 := w) w.heap.size (by rfl) (.tmp 29) (.tmp 33) 31 22 (.int .u32 0) 4 rfl Try.underlying31 info22 rfl (by decide) (by omega) (.slice Ao65 x4_1.length co65) x4_1 y11 _ _ _ (fun k_ => some k_ ≠ (.slice Ao66 x5_1.length co66 : Value).ownBlock ∧ some k_ ≠ (.slice Ao72 y11.length co72 : Value).ownBlock) (fun _ => False) rfl rfl ?aO ?aR (fun _ _ h => h) (fun _ h => h.elim) ?aF ?aB ?aS ?aL ?_
                            (case aR => repeat (first | exact (Kd.R_reads' HO13.out).2.2 | (with_reducible refine Kd.C_alloc ?_ _) | (with_reducible refine Kd.C_drewN ?_ _) | (with_reducible refine Kd.C_drew ?_)))
                            (case aB => exact (by repeat (first | (with_reducible first | exact HB.out | apply lA | apply lN | apply lD | refine below_set ?_ GE10.out) | exact HB.out)))
                            (case aF => exact (fun k_ hk => ⟨Kd.fresh' (rL (by (with_reducible repeat (first | apply rA | apply rN | apply rD)); exact HO_5.out)) k_ hk, Kd.fresh' (rL (by (with_reducible repeat (first | apply rA | apply rN | apply rD)); exact HO13.out)) k_ hk⟩))
                            (case aO => exact (by (with_reducible repeat (first | apply rA | apply rN | apply rD)); exact HO_4.out))
                            (case aS => exact (below_size (by repeat (first | (with_reducible first | exact HB.out | apply lA | apply lN | apply lD | refine below_set ?_ GE10.out) | exact HB.out))))
                            (case aL => have := LMc9.out; omega)
                            intro v15 w71 ho hb hg hat
                            rw [← Ny14.out] at ho
                            have n0_ := Am (Kd.R_after (ok := (fun k_ => some k_ ≠ (.slice Ao72 y11.length co72 : Value).ownBlock)) (by (with_reducible repeat (first | apply rA | apply rN | apply rD)); exact rM HO_5.out (fun _ hk => ⟨hk.2, hk.1⟩)) hg hat)
                            have n1_ := Am (blk_grown (g := gb10) (o := .cells #[.int .u32 ((rd_T24 l0 xb).f0), .int .u32 ((rd_T24 l0 xb).f1)] 24 (0, 0)) (by (with_reducible repeat (first | refine blk_drewN ?_ _ | refine blk_drew ?_ | refine blk_alloc ?_ _)); exact BK10.out) hg (Kd.R_ne HO_4.out BK10.out (by decide)))
                            have n2_ := Am (Kd.R_after (ok := (fun k_ => some k_ ≠ (.slice Ao66 x5_1.length co66 : Value).ownBlock)) (by (with_reducible repeat (first | apply rA | apply rN | apply rD)); exact rM HO13.out (fun _ hk => ⟨hk.2, hk.1.2⟩)) hg hat)
                            have n3_ := Am (hb)
                            have n4_ := Am (ho)
                            clear HO_5
                            clear BK10
                            clear HO13
                            clear HB
                            clear HO_4
                            have HO_5 := n0_
                            have BK10 := n1_
                            have HO13 := n2_
                            have HB := n3_
                            have HO16 := n4_
                            clear n0_ n1_ n2_ n3_ n4_
                            clear ho hb hg hat
                            refine hK.out _ _ ⟨(blk_cell BK10.out 0).trans rfl, (blk_cell BK10.out 1).trans rfl⟩ (fun hHeld => ?_)
                            clear hK K
                            refine norm_ (a' := ?_) ?_ ?_
                            rotate_left
                            · show Act.put _ (some 34) _ = _
                              simp only [Act.put, List.setIfInBounds_toArray, List.set_cons_zero, List.set_cons_succ, i64_w, i32_w, IntKind.wrap_u32]
                              rfl
                            refine one_ (i := 10) (N := some 39) #[true, true, true, true, true, true, true, true, true, true, true, false, false, false] rfl rfl (one_of HT_.out (by kernel_rfl)) (by decide) (fun K hK => ?_)
                            refine Kd.R_lit_step (Kd.int .u32) _ 22 ?hg (N := 39) ?hd (xs := ([Int.tmod ((rd_T24 l0 xb).f0) 65536] : List Int)) (inner := [.int .u32 (Int.tmod ((rd_T24 l0 xb).f0) 65536)]) (ok := fun _ => True) (okp := fun _ => True) ?hr ?hp (fun _ hk => hk) trivial (Below.refl _ _) (Nat.le_refl _) (by simp) ?_; (case hd => rfl); (case hg => rfl); (case hr => first | (go_simp; done) | (go_simp; rfl)); (case hp => exact (Reps.one (show Kd.M (Kd.int .u32) _ _ _ (Int.tmod ((rd_T24 l0 xb).f0) 65536) [.int .u32 (Int.tmod ((rd_T24 l0 xb).f0) 65536)] from rfl) (Reps.none _ _)))
                            intro v18 w73 ho74 hb hg_ hnew_
                            clear hg_ hnew_
                            (first | rw [← Ny17.out] at ho74 | (simp only [Int.reduceToNat] at ho74; rw [← Ny17.out] at ho74))
                            have n0_ := Am (Kd.R_elder' (by (with_reducible repeat (first | apply rA | apply rN | apply rD)); exact HO_5.out) (Kd.R_base ho74) hb)
                            have n1_ := Am (Kd.R_elder' (by (with_reducible repeat (first | apply rA | apply rN | apply rD)); exact HO13.out) (Kd.R_base ho74) hb)
                            have n2_ := Am (Kd.R_elder' (by (with_reducible repeat (first | apply rA | apply rN | apply rD)); exact HO16.out) (Kd.R_base ho74) hb)
                            have n3_ := Am (Kd.R_lower (Kd.R_new' (Kd.R_new' (Kd.R_new' ho74 (rL (by (with_reducible repeat (first | apply rA | apply rN | apply rD)); exact HO_5.out))) (rL (by (with_reducible repeat (first | apply rA | apply rN | apply rD)); exact HO13.out))) (rL (by (with_reducible repeat (first | apply rA | apply rN | apply rD)); exact HO16.out))) (below_size (by repeat (first | (with_reducible first | exact HB.out | apply lA | apply lN | apply lD | refine below_set ?_ GE10.out) | exact HB.out))))
                            have n4_ := Am (blk_below (g := gb10) (o := .cells #[.int .u32 ((rd_T24 l0 xb).f0), .int .u32 ((rd_T24 l0 xb).f1)] 24 (0, 0)) (by (with_reducible repeat (first | refine blk_drewN ?_ _ | refine blk_drew ?_ | refine blk_alloc ?_ _)); exact BK10.out) hb)
                            have n5_ := Am (below_step (by repeat (first | (with_reducible first | exact HB.out | apply lA | apply lN | apply lD | refine below_set ?_ GE10.out) | exact HB.out)) hb)
                            clear HO_5
                            clear HO13
                            clear HO16
                            clear BK10
                            clear HB
                            have HO_5 := n0_
                            have HO13 := n1_
                            have HO16 := n2_
                            have HO19 := n3_
                            have BK10 := n4_
                            have HB := n5_
                            clear n0_ n1_ n2_ n3_ n4_ n5_
                            clear hb ho74
                            refine hK.out _ _ ⟨(blk_cell BK10.out 0).trans rfl, (blk_cell BK10.out 1).trans rfl⟩ (fun hHeld => ?_)
                            clear hK K
                            refine norm_ (a' := ?_) ?_ ?_
                            rotate_left
                            · show Act.put _ (some 39) _ = _
                              simp only [Act.put, List.setIfInBounds_toArray, List.set_cons_zero, List.set_cons_succ, i64_w, i32_w, IntKind.wrap_u32]
                              rfl
                            exact norm_ (by simp only [putAll, Act.put, List.setIfInBounds_toArray, List.set_cons_zero, List.set_cons_succ]) (hCont (.slice Ao72 y11.length co72, v15, v18) _ ⟨hHeld, (by (with_reducible repeat (first | apply rA | apply rN | apply rD)); exact rM HO13.out (fun _ hk => ⟨hk.1.2, ⟨hk.2, hk.1.1⟩⟩)), (by (with_reducible repeat (first | apply rA | apply rN | apply rD)); exact rM HO16.out (fun _ hk => ⟨hk.1.2, ⟨hk.2, hk.1.1⟩⟩)), (by (with_reducible repeat (first | apply rA | apply rN | apply rD)); exact rM HO19.out (fun _ hk => ⟨hk.1.2, ⟨hk.2, hk.1.1.2⟩⟩)), (by (with_reducible repeat (first | apply rA | apply rN | apply rD)); exact rM HO_5.out (fun _ hk => ⟨hk.1.1, ⟨hk.1.2, hk.2⟩⟩)), (by (with_reducible repeat (first | refine blk_drewN ?_ _ | refine blk_drew ?_ | refine blk_alloc ?_ _)); exact BK10.out), (by repeat (first | (with_reducible first | exact HB.out | apply lA | apply lN | apply lD | refine below_set ?_ GE10.out) | exact HB.out))⟩)
                          · skip
                            refine Kd.R_lit_step (Kd.int .u32) _ 22 ?hg (N := 39) ?hd (xs := ([Int.tmod ((rd_T24 l0 xb).f0) 65536] : List Int)) (inner := [.int .u32 (Int.tmod ((rd_T24 l0 xb).f0) 65536)]) (ok := fun _ => True) (okp := fun _ => True) ?hr ?hp (fun _ hk => hk) trivial (Below.refl _ _) (Nat.le_refl _) (by simp) ?_; (case hd => rfl); (case hg => rfl); (case hr => first | (go_simp; done) | (go_simp; rfl)); (case hp => exact (Reps.one (show Kd.M (Kd.int .u32) _ _ _ (Int.tmod ((rd_T24 l0 xb).f0) 65536) [.int .u32 (Int.tmod ((rd_T24 l0 xb).f0) 65536)] from rfl) (Reps.none _ _)))
                            intro v18 w71 ho72 hb hg_ hnew_
                            clear hg_ hnew_
                            (first | rw [← Ny17.out] at ho72 | (simp only [Int.reduceToNat] at ho72; rw [← Ny17.out] at ho72))
                            have n0_ := Am (Kd.R_elder' (by (with_reducible repeat (first | apply rA | apply rN | apply rD)); exact HO_4.out) (Kd.R_base ho72) hb)
                            have n1_ := Am (Kd.R_elder' (by (with_reducible repeat (first | apply rA | apply rN | apply rD)); exact HO_5.out) (Kd.R_base ho72) hb)
                            have n2_ := Am (Kd.R_elder' (by (with_reducible repeat (first | apply rA | apply rN | apply rD)); exact HO13.out) (Kd.R_base ho72) hb)
                            have n3_ := Am (Kd.R_lower (Kd.R_new' (Kd.R_new' (Kd.R_new' ho72 (rL (by (with_reducible repeat (first | apply rA | apply rN | apply rD)); exact HO_4.out))) (rL (by (with_reducible repeat (first | apply rA | apply rN | apply rD)); exact HO_5.out))) (rL (by (with_reducible repeat (first | apply rA | apply rN | apply rD)); exact HO13.out))) (below_size (by repeat (first | (with_reducible first | exact HB.out | apply lA | apply lN | apply lD | refine below_set ?_ GE10.out) | exact HB.out))))
                            have n4_ := Am (blk_below (g := gb10) (o := .cells #[.int .u32 ((rd_T24 l0 xb).f0), .int .u32 ((rd_T24 l0 xb).f1)] 24 (0, 0)) (by (with_reducible repeat (first | refine blk_drewN ?_ _ | refine blk_drew ?_ | refine blk_alloc ?_ _)); exact BK10.out) hb)
                            have n5_ := Am (below_step (by repeat (first | (with_reducible first | exact HB.out | apply lA | apply lN | apply lD | refine below_set ?_ GE10.out) | exact HB.out)) hb)
                            clear HO_4
                            clear HO_5
                            clear HO13
                            clear BK10
                            clear HB
                            have HO_4 := n0_
                            have HO_5 := n1_
                            have HO13 := n2_
                            have HO19 := n3_
                            have BK10 := n4_
                            have HB := n5_
                            clear n0_ n1_ n2_ n3_ n4_ n5_
                            clear hb ho72
                            obtain ⟨Ao74, co74, eo74⟩ := Kd.R_slice HO13.out
                            (first | subst eo74 | (injection eo74 with f1_ f2_ f3_; have f4_ := f1_.symm; have f5_ := f3_.symm; clear f1_ f2_ f3_; subst f4_; subst f5_))
                            refine hK.out _ _ ⟨(blk_cell BK10.out 0).trans rfl, (blk_cell BK10.out 1).trans rfl⟩ (fun hHeld => ?_)
                            clear hK K
                            refine norm_ (a' := ?_) ?_ ?_
                            rotate_left
                            · show Act.put _ (some 39) _ = _
                              simp only [Act.put, List.setIfInBounds_toArray, List.set_cons_zero, List.set_cons_succ, i64_w, i32_w, IntKind.wrap_u32]
                              rfl
                            refine one_ (i := 5) (N := some 34) #[true, true, true, true, true, true, true, true, true, true, true, false, false, false] rfl rfl (one_of HT_.out (by kernel_rfl)) (by decide) (fun K hK => ?_)
                            refine Kd.R_append_rows_step (Kd.int .u32) (w0 := w) w.heap.size (by rfl) (.tmp 29) (.tmp 33) 31 22 (.int .u32 0) 4 rfl Try.underlying31 info22 rfl (by decide) (by omega) (.slice Ao65 x4_1.length co65) x4_1 y11 _ _ _ (fun k_ => some k_ ≠ (.slice Ao66 x5_1.length co66 : Value).ownBlock ∧ some k_ ≠ (.slice Ao74 y11.length co74 : Value).ownBlock ∧ some k_ ≠ (v18 : Value).ownBlock) (fun _ => False) rfl rfl ?aO ?aR (fun _ _ h => h) (fun _ h => h.elim) ?aF ?aB ?aS ?aL ?_
                            (case aR => repeat (first | exact (Kd.R_reads' HO13.out).2.2 | (with_reducible refine Kd.C_alloc ?_ _) | (with_reducible refine Kd.C_drewN ?_ _) | (with_reducible refine Kd.C_drew ?_)))
                            (case aB => exact (by repeat (first | (with_reducible first | exact HB.out | apply lA | apply lN | apply lD | refine below_set ?_ GE10.out) | exact HB.out)))
                            (case aF => exact (fun k_ hk => ⟨Kd.fresh' (rL (by (with_reducible repeat (first | apply rA | apply rN | apply rD)); exact HO_5.out)) k_ hk, Kd.fresh' (rL (by (with_reducible repeat (first | apply rA | apply rN | apply rD)); exact HO13.out)) k_ hk, Kd.fresh' (rL (by (with_reducible repeat (first | apply rA | apply rN | apply rD)); exact HO19.out)) k_ hk⟩))
                            (case aO => exact (by (with_reducible repeat (first | apply rA | apply rN | apply rD)); exact rM HO_4.out (fun _ hk => ⟨hk.1.1, ⟨hk.1.2, hk.2⟩⟩)))
                            (case aS => exact (below_size (by repeat (first | (with_reducible first | exact HB.out | apply lA | apply lN | apply lD | refine below_set ?_ GE10.out) | exact HB.out))))
                            (case aL => have := LMc9.out; omega)
                            intro v15 w73 ho hb hg hat
                            rw [← Ny14.out] at ho
                            have n0_ := Am (Kd.R_after (ok := (fun k_ => some k_ ≠ (.slice Ao74 y11.length co74 : Value).ownBlock ∧ some k_ ≠ (v18 : Value).ownBlock)) (by (with_reducible repeat (first | apply rA | apply rN | apply rD)); exact rM HO_5.out (fun _ hk => ⟨⟨hk.1.2, hk.2⟩, hk.1.1⟩)) hg hat)
                            have n1_ := Am (blk_grown (g := gb10) (o := .cells #[.int .u32 ((rd_T24 l0 xb).f0), .int .u32 ((rd_T24 l0 xb).f1)] 24 (0, 0)) (by (with_reducible repeat (first | refine blk_drewN ?_ _ | refine blk_drew ?_ | refine blk_alloc ?_ _)); exact BK10.out) hg (Kd.R_ne HO_4.out BK10.out (by decide)))
                            have n2_ := Am (Kd.R_after (ok := (fun k_ => some k_ ≠ (.slice Ao66 x5_1.length co66 : Value).ownBlock ∧ some k_ ≠ (v18 : Value).ownBlock)) (by (with_reducible repeat (first | apply rA | apply rN | apply rD)); exact rM HO13.out (fun _ hk => ⟨⟨hk.1.2, hk.2⟩, hk.1.1.2⟩)) hg hat)
                            have n3_ := Am (Kd.R_after (ok := (fun k_ => some k_ ≠ (.slice Ao66 x5_1.length co66 : Value).ownBlock ∧ some k_ ≠ (.slice Ao74 y11.length co74 : Value).ownBlock)) (by (with_reducible repeat (first | apply rA | apply rN | apply rD)); exact rM HO19.out (fun _ hk => ⟨⟨hk.1.2, hk.2⟩, hk.1.1.2⟩)) hg hat)
                            have n4_ := Am (hb)
                            have n5_ := Am (ho)
                            clear HO_5
                            clear BK10
                            clear HO13
                            clear HO19
                            clear HB
                            clear HO_4
                            have HO_5 := n0_
                            have BK10 := n1_
                            have HO13 := n2_
                            have HO19 := n3_
                            have HB := n4_
                            have HO16 := n5_
                            clear n0_ n1_ n2_ n3_ n4_ n5_
                            clear ho hb hg hat
                            refine hK.out _ _ ⟨(blk_cell BK10.out 0).trans rfl, (blk_cell BK10.out 1).trans rfl⟩ (fun hHeld => ?_)
                            clear hK K
                            refine norm_ (a' := ?_) ?_ ?_
                            rotate_left
                            · show Act.put _ (some 34) _ = _
                              simp only [Act.put, List.setIfInBounds_toArray, List.set_cons_zero, List.set_cons_succ, i64_w, i32_w, IntKind.wrap_u32]
                              rfl
                            exact norm_ (by simp only [putAll, Act.put, List.setIfInBounds_toArray, List.set_cons_zero, List.set_cons_succ]) (hCont (.slice Ao74 y11.length co74, v15, v18) _ ⟨hHeld, (by (with_reducible repeat (first | apply rA | apply rN | apply rD)); exact rM HO13.out (fun _ hk => ⟨hk.2, ⟨hk.1.2, hk.1.1⟩⟩)), (by (with_reducible repeat (first | apply rA | apply rN | apply rD)); exact rM HO16.out (fun _ hk => ⟨hk.2.1, ⟨hk.2.2, hk.1⟩⟩)), (by (with_reducible repeat (first | apply rA | apply rN | apply rD)); exact rM HO19.out (fun _ hk => ⟨hk.1.2, ⟨hk.2, hk.1.1⟩⟩)), (by (with_reducible repeat (first | apply rA | apply rN | apply rD)); exact rM HO_5.out (fun _ hk => ⟨hk.1.1, ⟨hk.2, hk.1.2⟩⟩)), (by (with_reducible repeat (first | refine blk_drewN ?_ _ | refine blk_drew ?_ | refine blk_alloc ?_ _)); exact BK10.out), (by repeat (first | (with_reducible first | exact HB.out | apply lA | apply lN | apply lD | refine below_set ?_ GE10.out) | exact HB.out))⟩)
                        · skip
                          refine Kd.R_lit_step (Kd.int .u32) _ 22 ?hg (N := 39) ?hd (xs := ([Int.tmod ((rd_T24 l0 xb).f0) 65536] : List Int)) (inner := [.int .u32 (Int.tmod ((rd_T24 l0 xb).f0) 65536)]) (ok := fun _ => True) (okp := fun _ => True) ?hr ?hp (fun _ hk => hk) trivial (Below.refl _ _) (Nat.le_refl _) (by simp) ?_; (case hd => rfl); (case hg => rfl); (case hr => first | (go_simp; done) | (go_simp; rfl)); (case hp => exact (Reps.one (show Kd.M (Kd.int .u32) _ _ _ (Int.tmod ((rd_T24 l0 xb).f0) 65536) [.int .u32 (Int.tmod ((rd_T24 l0 xb).f0) 65536)] from rfl) (Reps.none _ _)))
                          intro v18 w69 ho70 hb hg_ hnew_
                          clear hg_ hnew_
                          (first | rw [← Ny17.out] at ho70 | (simp only [Int.reduceToNat] at ho70; rw [← Ny17.out] at ho70))
                          have n0_ := Am (Kd.R_elder' (by (with_reducible repeat (first | apply rA | apply rN | apply rD)); exact HO_4.out) (Kd.R_base ho70) hb)
                          have n1_ := Am (Kd.R_elder' (by (with_reducible repeat (first | apply rA | apply rN | apply rD)); exact HO_5.out) (Kd.R_base ho70) hb)
                          have n2_ := Am (Kd.R_lower (Kd.R_new' (Kd.R_new' ho70 (rL (by (with_reducible repeat (first | apply rA | apply rN | apply rD)); exact HO_4.out))) (rL (by (with_reducible repeat (first | apply rA | apply rN | apply rD)); exact HO_5.out))) (below_size (by repeat (first | (with_reducible first | exact HB.out | apply lA | apply lN | apply lD | refine below_set ?_ GE10.out) | exact HB.out))))
                          have n3_ := Am (blk_below (g := gb10) (o := .cells #[.int .u32 ((rd_T24 l0 xb).f0), .int .u32 ((rd_T24 l0 xb).f1)] 24 (0, 0)) (by (with_reducible repeat (first | refine blk_drewN ?_ _ | refine blk_drew ?_ | refine blk_alloc ?_ _)); exact BK10.out) hb)
                          have n4_ := Am (below_step (by repeat (first | (with_reducible first | exact HB.out | apply lA | apply lN | apply lD | refine below_set ?_ GE10.out) | exact HB.out)) hb)
                          clear HO_4
                          clear HO_5
                          clear BK10
                          clear HB
                          have HO_4 := n0_
                          have HO_5 := n1_
                          have HO19 := n2_
                          have BK10 := n3_
                          have HB := n4_
                          clear n0_ n1_ n2_ n3_ n4_
                          clear hb ho70
                          refine hK.out _ _ ⟨(blk_cell BK10.out 0).trans rfl, (blk_cell BK10.out 1).trans rfl⟩ (fun hHeld => ?_)
                          clear hK K
                          refine norm_ (a' := ?_) ?_ ?_
                          rotate_left
                          · show Act.put _ (some 39) _ = _
                            simp only [Act.put, List.setIfInBounds_toArray, List.set_cons_zero, List.set_cons_succ, i64_w, i32_w, IntKind.wrap_u32]
                            rfl
                          refine one_ (i := 4) (N := some 33) #[true, true, true, true, true, false, true, true, true, true, true, false, false, false] rfl rfl (one_of HT_.out (by kernel_rfl)) (by decide) (fun K hK => ?_)
                          refine Kd.R_lit_step (Kd.int .u32) _ 22 ?hg (N := 33) ?hd (xs := ([(Int.tdiv ((rd_T24 l0 xb).f0) 65536) % 4294967296] : List Int)) (inner := [.int .u32 ((Int.tdiv ((rd_T24 l0 xb).f0) 65536) % 4294967296)]) (ok := fun _ => True) (okp := fun _ => True) ?hr ?hp (fun _ hk => hk) trivial (Below.refl _ _) (Nat.le_refl _) (by simp) ?_; (case hd => rfl); (case hg => rfl); (case hr => first | (go_simp; done) | (go_simp; rfl)); (case hp => exact (Reps.one (show Kd.M (Kd.int .u32) _ _ _ ((Int.tdiv ((rd_T24 l0 xb).f0) 65536) % 4294967296) [.int .u32 ((Int.tdiv ((rd_T24 l0 xb).f0) 65536) % 4294967296)] from rfl) (Reps.none _ _)))
                          intro v12 w71 ho72 hb hg_ hnew_
                          clear hg_ hnew_
                          (first | rw [← Ny11.out] at ho72 | (simp only [Int.reduceToNat] at ho72; rw [← Ny11.out] at ho72))
                          have n0_ := Am (Kd.R_elder' (by (with_reducible repeat (first | apply rA | apply rN | apply rD)); exact HO_4.out) (Kd.R_base ho72) hb)
                          have n1_ := Am (Kd.R_elder' (by (with_reducible repeat (first | apply rA | apply rN | apply rD)); exact HO_5.out) (Kd.R_base ho72) hb)
                          have n2_ := Am (Kd.R_elder' (by (with_reducible repeat (first | apply rA | apply rN | apply rD)); exact HO19.out) (Kd.R_base ho72) hb)
                          have n3_ := Am (Kd.R_lower (Kd.R_new' (Kd.R_new' (Kd.R_new' ho72 (rL (by (with_reducible repeat (first | apply rA | apply rN | apply rD)); exact HO_4.out))) (rL (by (with_reducible repeat (first | apply rA | apply rN | apply rD)); exact HO_5.out))) (rL (by (with_reducible repeat (first | apply rA | apply rN | apply rD)); exact HO19.out))) (below_size (by repeat (first | (with_reducible first | exact HB.out | apply lA | apply lN | apply lD | refine below_set ?_ GE10.out) | exact HB.out))))
                          have n4_ := Am (blk_below (g := gb10) (o := .cells #[.int .u32 ((rd_T24 l0 xb).f0), .int .u32 ((rd_T24 l0 xb).f1)] 24 (0, 0)) (by (with_reducible repeat (first | refine blk_drewN ?_ _ | refine blk_drew ?_ | refine blk_alloc ?_ _)); exact BK10.out) hb)
                          have n5_ := Am (below_step (by repeat (first | (with_reducible first | exact HB.out | apply lA | apply lN | apply lD | refine below_set ?_ GE10.out) | exact HB.out)) hb)
                          clear HO_4
                          clear HO_5
                          clear HO19
                          clear BK10
                          clear HB
                          have HO_4 := n0_
                          have HO_5 := n1_
                          have HO19 := n2_
                          have HO13 := n3_
                          have BK10 := n4_
                          have HB := n5_
                          clear n0_ n1_ n2_ n3_ n4_ n5_
                          clear hb ho72
                          obtain ⟨Ao74, co74, eo74⟩ := Kd.R_slice HO13.out
                          (first | subst eo74 | (injection eo74 with f1_ f2_ f3_; have f4_ := f1_.symm; have f5_ := f3_.symm; clear f1_ f2_ f3_; subst f4_; subst f5_))
                          refine hK.out _ _ ⟨(blk_cell BK10.out 0).trans rfl, (blk_cell BK10.out 1).trans rfl⟩ (fun hHeld => ?_)
                          clear hK K
                          refine norm_ (a' := ?_) ?_ ?_
                          rotate_left
                          · show Act.put _ (some 33) _ = _
                            simp only [Act.put, List.setIfInBounds_toArray, List.set_cons_zero, List.set_cons_succ, i64_w, i32_w, IntKind.wrap_u32]
                            rfl
                          refine one_ (i := 5) (N := some 34) #[true, true, true, true, true, true, true, true, true, true, true, false, false, false] rfl rfl (one_of HT_.out (by kernel_rfl)) (by decide) (fun K hK => ?_)
                          refine Kd.R_append_rows_step (Kd.int .u32) (w0 := w) w.heap.size (by rfl) (.tmp 29) (.tmp 33) 31 22 (.int .u32 0) 4 rfl Try.underlying31 info22 rfl (by decide) (by omega) (.slice Ao65 x4_1.length co65) x4_1 y11 _ _ _ (fun k_ => some k_ ≠ (.slice Ao66 x5_1.length co66 : Value).ownBlock ∧ some k_ ≠ (v18 : Value).ownBlock ∧ some k_ ≠ (.slice Ao74 y11.length co74 : Value).ownBlock) (fun _ => False) rfl rfl ?aO ?aR (fun _ _ h => h) (fun _ h => h.elim) ?aF ?aB ?aS ?aL ?_
                          (case aR => repeat (first | exact (Kd.R_reads' HO13.out).2.2 | (with_reducible refine Kd.C_alloc ?_ _) | (with_reducible refine Kd.C_drewN ?_ _) | (with_reducible refine Kd.C_drew ?_)))
                          (case aB => exact (by repeat (first | (with_reducible first | exact HB.out | apply lA | apply lN | apply lD | refine below_set ?_ GE10.out) | exact HB.out)))
                          (case aF => exact (fun k_ hk => ⟨Kd.fresh' (rL (by (with_reducible repeat (first | apply rA | apply rN | apply rD)); exact HO_5.out)) k_ hk, Kd.fresh' (rL (by (with_reducible repeat (first | apply rA | apply rN | apply rD)); exact HO19.out)) k_ hk, Kd.fresh' (rL (by (with_reducible repeat (first | apply rA | apply rN | apply rD)); exact HO13.out)) k_ hk⟩))
                          (case aO => exact (by (with_reducible repeat (first | apply rA | apply rN | apply rD)); exact rM HO_4.out (fun _ hk => ⟨hk.1.1, ⟨hk.1.2, hk.2⟩⟩)))
                          (case aS => exact (below_size (by repeat (first | (with_reducible first | exact HB.out | apply lA | apply lN | apply lD | refine below_set ?_ GE10.out) | exact HB.out))))
                          (case aL => have := LMc9.out; omega)
                          intro v15 w73 ho hb hg hat
                          rw [← Ny14.out] at ho
                          have n0_ := Am (Kd.R_after (ok := (fun k_ => some k_ ≠ (v18 : Value).ownBlock ∧ some k_ ≠ (.slice Ao74 y11.length co74 : Value).ownBlock)) (by (with_reducible repeat (first | apply rA | apply rN | apply rD)); exact rM HO_5.out (fun _ hk => ⟨⟨hk.1.2, hk.2⟩, hk.1.1⟩)) hg hat)
                          have n1_ := Am (blk_grown (g := gb10) (o := .cells #[.int .u32 ((rd_T24 l0 xb).f0), .int .u32 ((rd_T24 l0 xb).f1)] 24 (0, 0)) (by (with_reducible repeat (first | refine blk_drewN ?_ _ | refine blk_drew ?_ | refine blk_alloc ?_ _)); exact BK10.out) hg (Kd.R_ne HO_4.out BK10.out (by decide)))
                          have n2_ := Am (Kd.R_after (ok := (fun k_ => some k_ ≠ (.slice Ao66 x5_1.length co66 : Value).ownBlock ∧ some k_ ≠ (.slice Ao74 y11.length co74 : Value).ownBlock)) (by (with_reducible repeat (first | apply rA | apply rN | apply rD)); exact rM HO19.out (fun _ hk => ⟨⟨hk.1.2, hk.2⟩, hk.1.1.2⟩)) hg hat)
                          have n3_ := Am (Kd.R_after (ok := (fun k_ => some k_ ≠ (.slice Ao66 x5_1.length co66 : Value).ownBlock ∧ some k_ ≠ (v18 : Value).ownBlock)) (by (with_reducible repeat (first | apply rA | apply rN | apply rD)); exact rM HO13.out (fun _ hk => ⟨⟨hk.1.2, hk.2⟩, hk.1.1.2⟩)) hg hat)
                          have n4_ := Am (hb)
                          have n5_ := Am (ho)
                          clear HO_5
                          clear BK10
                          clear HO19
                          clear HO13
                          clear HB
                          clear HO_4
                          have HO_5 := n0_
                          have BK10 := n1_
                          have HO19 := n2_
                          have HO13 := n3_
                          have HB := n4_
                          have HO16 := n5_
                          clear n0_ n1_ n2_ n3_ n4_ n5_
                          clear ho hb hg hat
                          refine hK.out _ _ ⟨(blk_cell BK10.out 0).trans rfl, (blk_cell BK10.out 1).trans rfl⟩ (fun hHeld => ?_)
                          clear hK K
                          refine norm_ (a' := ?_) ?_ ?_
                          rotate_left
                          · show Act.put _ (some 34) _ = _
                            simp only [Act.put, List.setIfInBounds_toArray, List.set_cons_zero, List.set_cons_succ, i64_w, i32_w, IntKind.wrap_u32]
                            rfl
                          exact norm_ (by simp only [putAll, Act.put, List.setIfInBounds_toArray, List.set_cons_zero, List.set_cons_succ]) (hCont (.slice Ao74 y11.length co74, v15, v18) _ ⟨hHeld, (by (with_reducible repeat (first | apply rA | apply rN | apply rD)); exact rM HO13.out (fun _ hk => ⟨hk.2, ⟨hk.1.2, hk.1.1⟩⟩)), (by (with_reducible repeat (first | apply rA | apply rN | apply rD)); exact rM HO16.out (fun _ hk => ⟨hk.2.2, ⟨hk.2.1, hk.1⟩⟩)), (by (with_reducible repeat (first | apply rA | apply rN | apply rD)); exact rM HO19.out (fun _ hk => ⟨hk.1.2, ⟨hk.2, hk.1.1⟩⟩)), (by (with_reducible repeat (first | apply rA | apply rN | apply rD)); exact rM HO_5.out (fun _ hk => ⟨hk.1.2, ⟨hk.2, hk.1.1⟩⟩)), (by (with_reducible repeat (first | refine blk_drewN ?_ _ | refine blk_drew ?_ | refine blk_alloc ?_ _)); exact BK10.out), (by repeat (first | (with_reducible first | exact HB.out | apply lA | apply lN | apply lD | refine below_set ?_ GE10.out) | exact HB.out))⟩)
                      rintro ⟨v12, v15, v18⟩ w75 ⟨hS_, h0_, h1_, h2_, h3_, h4_, h5_⟩
                      have n0_ : Aside0 (Kd.R (Kd.int .u32) 22 w75 w.heap.size (fun k_ => some k_ ≠ (v15 : Value).ownBlock ∧ some k_ ≠ (v18 : Value).ownBlock ∧ some k_ ≠ (.slice Ao66 x5_1.length co66 : Value).ownBlock) v12 y11) := ⟨h0_⟩
                      have n1_ : Aside0 (Kd.R (Kd.int .u32) 22 w75 w.heap.size (fun k_ => some k_ ≠ (v12 : Value).ownBlock ∧ some k_ ≠ (v18 : Value).ownBlock ∧ some k_ ≠ (.slice Ao66 x5_1.length co66 : Value).ownBlock) v15 y14) := ⟨h1_⟩
                      have n2_ : Aside0 (Kd.R (Kd.int .u32) 22 w75 w.heap.size (fun k_ => some k_ ≠ (v12 : Value).ownBlock ∧ some k_ ≠ (v15 : Value).ownBlock ∧ some k_ ≠ (.slice Ao66 x5_1.length co66 : Value).ownBlock) v18 y17) := ⟨h2_⟩
                      have n3_ : Aside0 (Kd.R (Kd.int .u32) 22 w75 w.heap.size (fun k_ => some k_ ≠ (v12 : Value).ownBlock ∧ some k_ ≠ (v15 : Value).ownBlock ∧ some k_ ≠ (v18 : Value).ownBlock) (.slice Ao66 x5_1.length co66) x5_1) := ⟨h3_⟩
                      have n4_ : Aside0 (w75.heap[gb10]? = some (.cells #[.int .u32 ((rd_T24 l0 xb).f0), .int .u32 ((rd_T24 l0 xb).f1)] 24 (0, 0))) := ⟨h4_⟩
                      have n5_ : Aside0 (Below w.heap.size w w75) := ⟨h5_⟩
                      clear HO_4
                      clear HO_5
                      clear BK10
                      clear HB
                      clear h0_ h1_ h2_ h3_ h4_ h5_
                      have HO13 := n0_
                      have HO16 := n1_
                      have HO19 := n2_
                      have HO_5 := n3_
                      have BK10 := n4_
                      have HB := n5_
                      clear n0_ n1_ n2_ n3_ n4_ n5_
                      have hHeld : w75.cell? ⟨gb10, 0, none⟩ = some (.int .u32 ((rd_T24 l0 xb).f0)) ∧ w75.cell? ⟨gb10, 1, none⟩ = some (.int .u32 ((rd_T24 l0 xb).f1)) := hS_
                      obtain ⟨Ao77, co77, eo77⟩ := Kd.R_slice HO19.out
                      (first | subst eo77 | (injection eo77 with f1_ f2_ f3_; have f4_ := f1_.symm; have f5_ := f3_.symm; clear f1_ f2_ f3_; subst f4_; subst f5_))
                      refine norm_ (a' := ?_) ?_ ?_
                      rotate_left
                      · simp only [putAll, Act.put, List.setIfInBounds_toArray, List.set_cons_zero, List.set_cons_succ]
                        rfl
                      refine one_ (i := 11) (N := some 40) #[true, true, true, true, true, true, true, true, true, true, true, true, false, false] rfl rfl (one_of HT_.out (by kernel_rfl)) (by decide) (fun K hK => ?_)
                      refine Kd.R_append_rows_step (Kd.int .u32) (w0 := w) w.heap.size (by rfl) (.tmp 35) (.tmp 39) 31 22 (.int .u32 0) 4 rfl Try.underlying31 info22 rfl (by decide) (by omega) (.slice Ao66 x5_1.length co66) x5_1 y17 _ _ _ (fun k_ => some k_ ≠ (v12 : Value).ownBlock ∧ some k_ ≠ (v15 : Value).ownBlock ∧ some k_ ≠ (.slice Ao77 y17.length co77 : Value).ownBlock) (fun _ => False) rfl rfl ?aO ?aR (fun _ _ h => h) (fun _ h => h.elim) ?aF ?aB ?aS ?aL ?_
                      (case aR => repeat (first | exact (Kd.R_reads' HO19.out).2.2 | (with_reducible refine Kd.C_alloc ?_ _) | (with_reducible refine Kd.C_drewN ?_ _) | (with_reducible refine Kd.C_drew ?_)))
                      (case aB => exact (by repeat (first | (with_reducible first | exact HB.out | apply lA | apply lN | apply lD | refine below_set ?_ GE10.out) | exact HB.out)))
                      (case aF => exact (fun k_ hk => ⟨Kd.fresh' (rL (by (with_reducible repeat (first | apply rA | apply rN | apply rD)); exact HO13.out)) k_ hk, Kd.fresh' (rL (by (with_reducible repeat (first | apply rA | apply rN | apply rD)); exact HO16.out)) k_ hk, Kd.fresh' (rL (by (with_reducible repeat (first | apply rA | apply rN | apply rD)); exact HO19.out)) k_ hk⟩))
                      (case aO => exact (by (with_reducible repeat (first | apply rA | apply rN | apply rD)); exact HO_5.out))
                      (case aS => exact (below_size (by repeat (first | (with_reducible first | exact HB.out | apply lA | apply lN | apply lD | refine below_set ?_ GE10.out) | exact HB.out))))
                      (case aL => have := LMc10.out; omega)
                      intro v21 w76 ho hb hg hat
                      rw [← Ny20.out] at ho
                      have n0_ := Am (blk_grown (g := gb10) (o := .cells #[.int .u32 ((rd_T24 l0 xb).f0), .int .u32 ((rd_T24 l0 xb).f1)] 24 (0, 0)) (by (with_reducible repeat (first | refine blk_drewN ?_ _ | refine blk_drew ?_ | refine blk_alloc ?_ _)); exact BK10.out) hg (Kd.R_ne HO_5.out BK10.out (by decide)))
                      have n1_ := Am (Kd.R_after (ok := (fun k_ => some k_ ≠ (v15 : Value).ownBlock ∧ some k_ ≠ (.slice Ao77 y17.length co77 : Value).ownBlock)) (by (with_reducible repeat (first | apply rA | apply rN | apply rD)); exact rM HO13.out (fun _ hk => ⟨⟨hk.1, hk.2.1⟩, hk.2.2⟩)) hg hat)
                      have n2_ := Am (Kd.R_after (ok := (fun k_ => some k_ ≠ (v12 : Value).ownBlock ∧ some k_ ≠ (.slice Ao77 y17.length co77 : Value).ownBlock)) (by (with_reducible repeat (first | apply rA | apply rN | apply rD)); exact rM HO16.out (fun _ hk => ⟨⟨hk.1, hk.2.1⟩, hk.2.2⟩)) hg hat)
                      have n3_ := Am (Kd.R_after (ok := (fun k_ => some k_ ≠ (v12 : Value).ownBlock ∧ some k_ ≠ (v15 : Value).ownBlock)) (by (with_reducible repeat (first | apply rA | apply rN | apply rD)); exact rM HO19.out (fun _ hk => ⟨⟨hk.1, hk.2.1⟩, hk.2.2⟩)) hg hat)
                      have n4_ := Am (hb)
                      have n5_ := Am (ho)
                      clear BK10
                      clear HO13
                      clear HO16
                      clear HO19
                      clear HB
                      clear HO_5
                      have BK10 := n0_
                      have HO13 := n1_
                      have HO16 := n2_
                      have HO19 := n3_
                      have HB := n4_
                      have HO22 := n5_
                      clear n0_ n1_ n2_ n3_ n4_ n5_
                      clear ho hb hg hat
                      refine hK.out _ _ ⟨(blk_cell BK10.out 0).trans rfl, (blk_cell BK10.out 1).trans rfl⟩ (fun hHeld => ?_)
                      clear hK K
                      refine norm_ (a' := ?_) ?_ ?_
                      rotate_left
                      · show Act.put _ (some 40) _ = _
                        simp only [Act.put, List.setIfInBounds_toArray, List.set_cons_zero, List.set_cons_succ, i64_w, i32_w, IntKind.wrap_u32]
                        rfl
                      refine pure_ (i := 12) (N := some 4) (v := ?_) (a' := ?_) #[true, true, true, true, true, true, true, true, true, true, true, true, true, false] rfl rfl (any_of HT_.out (by kernel_rfl)) (fun _ _ _ h => h) (Or.inl ⟨by rfl, ?_⟩) ?_ ?_
                      rotate_left
                      · intro w'
                        go_simp
                        with_reducible rfl
                      rotate_left
                      · simp only [Act.put, List.setIfInBounds_toArray, List.set_cons_zero, List.set_cons_succ, i64_w, i32_w, IntKind.wrap_u32]
                        rfl
                      refine pure_ (i := 13) (N := some 5) (v := ?_) (a' := ?_) #[true, true, true, true, true, true, true, true, true, true, true, true, true, true] rfl rfl (any_of HT_.out (by kernel_rfl)) (fun _ _ _ h => h) (Or.inl ⟨by rfl, ?_⟩) ?_ ?_
                      rotate_left
                      · intro w'
                        go_simp
                        with_reducible rfl
                      rotate_left
                      · simp only [Act.put, List.setIfInBounds_toArray, List.set_cons_zero, List.set_cons_succ, i64_w, i32_w, IntKind.wrap_u32]
                        rfl
                      refine done_ (done_of HT_.out (by kernel_rfl)) ?_
                      have hcz78_0 : w76.cell? ⟨gb10, 0, none⟩ = some (.int .u32 ((rd_T24 l0 xb).f0)) := (blk_cell BK10.out 0).trans rfl
                      have hcz78_1 : w76.cell? ⟨gb10, 1, none⟩ = some (.int .u32 ((rd_T24 l0 xb).f1)) := (blk_cell BK10.out 1).trans rfl
                      have hfz78_0 := blk_frozen BK10.out 0
                      have hfz78_1 := blk_frozen BK10.out 1
                      try go_wp2_with (first | ((with_reducible refine gate_dst (N := 59) rfl ?_); refine Kd.R_lit (Kd.int .u32) _ 22 ?hg (N := 59) ?hd (xs := ([((Int.tmod ((rd_T24 l0 xb).f1) 65536) + 1) % 4294967296] : List Int)) (inner := [.int .u32 (((Int.tmod ((rd_T24 l0 xb).f1) 65536) + 1) % 4294967296)]) (ok := fun _ => True) (okp := fun _ => True) ?hr ?hp (fun _ hk => hk) trivial (Below.refl _ _) (Nat.le_refl _) (by simp) ?_; (case hd => rfl); (case hg => rfl); (case hr => first | (go_simp; done) | (go_simp; rfl)); (case hp => exact (Reps.one (show Kd.M (Kd.int .u32) _ _ _ (((Int.tmod ((rd_T24 l0 xb).f1) 65536) + 1) % 4294967296) [.int .u32 (((Int.tmod ((rd_T24 l0 xb).f1) 65536) + 1) % 4294967296)] from rfl) (Reps.none _ _))); intro v36 w79 ho80 hb hg_ hnew_; clear hg_ hnew_; (first | rw [← Ny35.out] at ho80 | (simp only [Int.reduceToNat] at ho80; rw [← Ny35.out] at ho80)); have n0_ := Am (Kd.R_elder' (by (with_reducible repeat (first | apply rA | apply rN | apply rD)); exact HO13.out) (Kd.R_base ho80) hb); have n1_ := Am (Kd.R_elder' (by (with_reducible repeat (first | apply rA | apply rN | apply rD)); exact HO16.out) (Kd.R_base ho80) hb); have n2_ := Am (Kd.R_elder' (by (with_reducible repeat (first | apply rA | apply rN | apply rD)); exact HO19.out) (Kd.R_base ho80) hb); have n3_ := Am (Kd.R_elder' (by (with_reducible repeat (first | apply rA | apply rN | apply rD)); exact HO22.out) (Kd.R_base ho80) hb); have n4_ := Am (Kd.R_lower (Kd.R_new' (Kd.R_new' (Kd.R_new' (Kd.R_new' ho80 (rL (by (with_reducible repeat (first | apply rA | apply rN | apply rD)); exact HO13.out))) (rL (by (with_reducible repeat (first | apply rA | apply rN | apply rD)); exact HO16.out))) (rL (by (with_reducible repeat (first | apply rA | apply rN | apply rD)); exact HO19.out))) (rL (by (with_reducible repeat (first | apply rA | apply rN | apply rD)); exact HO22.out))) (below_size (by repeat (first | (with_reducible first | exact HB.out | apply lA | apply lN | apply lD | refine below_set ?_ GE10.out) | exact HB.out)))); have n5_ := Am (blk_below (g := gb10) (o := .cells #[.int .u32 ((rd_T24 l0 xb).f0), .int .u32 ((rd_T24 l0 xb).f1)] 24 (0, 0)) (by (with_reducible repeat (first | refine blk_drewN ?_ _ | refine blk_drew ?_ | refine blk_alloc ?_ _)); exact BK10.out) hb); have n6_ := Am (below_step (by repeat (first | (with_reducible first | exact HB.out | apply lA | apply lN | apply lD | refine below_set ?_ GE10.out) | exact HB.out)) hb); clear HO13; clear HO16; clear HO19; clear HO22; clear BK10; clear HB; have HO13 := n0_; have HO16 := n1_; have HO19 := n2_; have HO22 := n3_; have HO37 := n4_; have BK10 := n5_; have HB := n6_; clear n0_ n1_ n2_ n3_ n4_ n5_ n6_; clear hb ho80; obtain ⟨Ao82, co82, eo82⟩ := Kd.R_slice HO37.out; subst eo82) | ((with_reducible refine gate_builtin (b := .append) (xs := #[.tmp 57, .tmp 59]) rfl ?_); at_builtin; refine Kd.R_append_rows (Kd.int .u32) (w0 := w) w.heap.size rfl (.tmp 57) (.tmp 59) 31 22 (.int .u32 0) 4 rfl Try.underlying31 info22 rfl (by decide) (by omega) v21 y20 y35 _ _ _ (fun k_ => some k_ ≠ (v12 : Value).ownBlock ∧ some k_ ≠ (v15 : Value).ownBlock ∧ some k_ ≠ (.slice Ao77 y17.length co77 : Value).ownBlock ∧ some k_ ≠ (.slice Ao82 y35.length co82 : Value).ownBlock) (fun _ => False) rfl rfl ?aO ?aR (fun _ _ h => h) (fun _ h => h.elim) ?aF ?aB ?aS ?aL ?_; (case aR => repeat (first | exact (Kd.R_reads' HO37.out).2.2 | (with_reducible refine Kd.C_alloc ?_ _) | (with_reducible refine Kd.C_drewN ?_ _) | (with_reducible refine Kd.C_drew ?_))); (case aB => exact (by repeat (first | (with_reducible first | exact HB.out | apply lA | apply lN | apply lD | refine below_set ?_ GE10.out) | exact HB.out))); (case aF => exact (fun k_ hk => ⟨Kd.fresh' (rL (by (with_reducible repeat (first | apply rA | apply rN | apply rD)); exact HO13.out)) k_ hk, Kd.fresh' (rL (by (with_reducible repeat (first | apply rA | apply rN | apply rD)); exact HO16.out)) k_ hk, Kd.fresh' (rL (by (with_reducible repeat (first | apply rA | apply rN | apply rD)); exact HO19.out)) k_ hk, Kd.fresh' (rL (by (with_reducible repeat (first | apply rA | apply rN | apply rD)); exact HO37.out)) k_ hk⟩)); (case aO => exact (by (with_reducible repeat (first | apply rA | apply rN | apply rD)); exact rM HO22.out (fun _ hk => ⟨hk.1.1, ⟨hk.1.2.1, ⟨hk.1.2.2, hk.2⟩⟩⟩))); (case aS => exact (below_size (by repeat (first | (with_reducible first | exact HB.out | apply lA | apply lN | apply lD | refine below_set ?_ GE10.out) | exact HB.out)))); (case aL => have := LMc62.out; omega); intro v39 w81 ho hb hg hat; rw [← Ny38.out] at ho; have n0_ := Am (blk_grown (g := gb10) (o := .cells #[.int .u32 ((rd_T24 l0 xb).f0), .int .u32 ((rd_T24 l0 xb).f1)] 24 (0, 0)) (by (with_reducible repeat (first | refine blk_drewN ?_ _ | refine blk_drew ?_ | refine blk_alloc ?_ _)); exact BK10.out) hg (Kd.R_ne HO22.out BK10.out (by decide))); have n1_ := Am (Kd.R_after (ok := (fun k_ => some k_ ≠ (v15 : Value).ownBlock ∧ some k_ ≠ (.slice Ao77 y17.length co77 : Value).ownBlock ∧ some k_ ≠ (.slice Ao82 y35.length co82 : Value).ownBlock)) (by (with_reducible repeat (first | apply rA | apply rN | apply rD)); exact rM HO13.out (fun _ hk => ⟨⟨hk.1.1.1, ⟨hk.1.1.2, hk.2⟩⟩, hk.1.2⟩)) hg hat); have n2_ := Am (Kd.R_after (ok := (fun k_ => some k_ ≠ (v12 : Value).ownBlock ∧ some k_ ≠ (.slice Ao77 y17.length co77 : Value).ownBlock ∧ some k_ ≠ (.slice Ao82 y35.length co82 : Value).ownBlock)) (by (with_reducible repeat (first | apply rA | apply rN | apply rD)); exact rM HO16.out (fun _ hk => ⟨⟨hk.1.1.1, ⟨hk.1.1.2, hk.2⟩⟩, hk.1.2⟩)) hg hat); have n3_ := Am (Kd.R_after (ok := (fun k_ => some k_ ≠ (v12 : Value).ownBlock ∧ some k_ ≠ (v15 : Value).ownBlock ∧ some k_ ≠ (.slice Ao82 y35.length co82 : Value).ownBlock)) (by (with_reducible repeat (first | apply rA | apply rN | apply rD)); exact rM HO19.out (fun _ hk => ⟨⟨hk.1.1.1, ⟨hk.1.1.2, hk.2⟩⟩, hk.1.2⟩)) hg hat); have n4_ := Am (Kd.R_after (ok := (fun k_ => some k_ ≠ (v12 : Value).ownBlock ∧ some k_ ≠ (v15 : Value).ownBlock ∧ some k_ ≠ (.slice Ao77 y17.length co77 : Value).ownBlock)) (by (with_reducible repeat (first | apply rA | apply rN | apply rD)); exact rM HO37.out (fun _ hk => ⟨⟨hk.1.1.1.2, ⟨hk.1.1.2, hk.1.2⟩⟩, hk.2⟩)) hg hat); have n5_ := Am (hb); have n6_ := Am (ho); clear BK10; clear HO13; clear HO16; clear HO19; clear HO37; clear HB; clear HO22; have BK10 := n0_; have HO13 := n1_; have HO16 := n2_; have HO19 := n3_; have HO37 := n4_; have HB := n5_; have HO40 := n6_; clear n0_ n1_ n2_ n3_ n4_ n5_ n6_; clear ho hb hg hat))
                      go_roundg k1
                      case measure => have := HK1.out; omega
                      case rel => exact ⟨(y14), (y38), (wrap64 (xb + 1)), (by first | rfl | (simp; done) | (simp [*]; done)), H', ⟨by have := HK1.out; omega⟩, ⟨by (with_reducible repeat (first | apply rA | apply rN | apply rD)); exact rM HO16.out (fun _ hk => hk.2)⟩, ⟨by (with_reducible repeat (first | apply rA | apply rN | apply rD)); exact rM HO40.out (fun _ hk => hk.2.1)⟩, ⟨by repeat (first | (with_reducible first | exact HB.out | apply lA | apply lN | apply lD | refine below_set ?_ GE10.out) | exact HB.out)⟩⟩
                    · rw [if_neg c62] at H
                      exact absurd H (by simp)
                  · rw [if_neg c61] at H
                    have c61b0 : decide ((((Int.tmod ((rd_T24 l0 xb).f1) 65536) + 1) % 4294967296) < 65536) = false := decide_eq_false c61
                    clear c61
                    have H' := Am H
                    clear H
                    have p9 : 0 ≤ (xb : Int) := of_decide_eq_true (by first | (with_reducible assumption) | assumption)
                    have q9 : xb < (l0.length : Int) := of_decide_eq_true (by first | (with_reducible assumption) | assumption)
                    obtain ⟨ad9, e9, hx9_0, hx9_1⟩ := at_T24 HR0.out xb p9 q9
                    cases e9
                    replace hx9_0 := (HB.out.cell (World.block_lt_of_cell? w _ hx9_0)).trans hx9_0
                    replace hx9_1 := (HB.out.cell (World.block_lt_of_cell? w _ hx9_1)).trans hx9_1
                    replace p9 := eq_true p9
                    replace q9 := eq_true q9
                    try go_wp2_with (first | ((with_reducible refine gate_dst (N := 7) rfl ?_); refine box_event ?hg (N := 7) ?hd (cs := #[.int .u32 0, .int .u32 0]) (t := 24) ?hr ?_; (case hd => rfl); (case hg => rfl); (case hr => first | (go_simp; done) | (go_simp; rfl)); intro gb10 hg w83 hbox hb; have n0_ := Am (Kd.R_below (by (with_reducible repeat (first | apply rA | apply rN | apply rD)); exact HO_4.out) hb); have n1_ := Am (Kd.R_below (by (with_reducible repeat (first | apply rA | apply rN | apply rD)); exact HO_5.out) hb); have n2_ := Am (below_step (by repeat (first | (with_reducible first | exact HB.out | apply lA | apply lN | apply lD) | exact HB.out)) hb); have n3_ := Am (hbox); have n4_ := Am ((by rw [hg]; exact (below_size (by repeat (first | (with_reducible first | exact HB.out | apply lA | apply lN | apply lD) | exact HB.out))) : w.heap.size ≤ gb10)); have n5_ := Am ((by rw [hg]; exact (below_size (by repeat (first | (with_reducible first | exact HB.out | apply lA | apply lN | apply lD) | exact HB.out))) : w.heap.size ≤ gb10)); clear HO_4; clear HO_5; clear HB; have HO_4 := n0_; have HO_5 := n1_; have HB := n2_; have BK10 := n3_; have GW10 := n4_; have GE10 := n5_; clear n0_ n1_ n2_ n3_ n4_ n5_; clear hb hbox hg; have hcz84_0 : w83.cell? ⟨gb10, 0, none⟩ = some (.int .u32 0) := (blk_cell BK10.out 0).trans rfl; have hcz84_1 : w83.cell? ⟨gb10, 1, none⟩ = some (.int .u32 0) := (blk_cell BK10.out 1).trans rfl; have hfz84_0 := blk_frozen BK10.out 0; have hfz84_1 := blk_frozen BK10.out 1; obtain ⟨Ao85, co85, eo85⟩ := Kd.R_slice HO_4.out; subst eo85; obtain ⟨Ao86, co86, eo86⟩ := Kd.R_slice HO_5.out; subst eo86))
                    have n0_ : Aside0 (Kd.R (Kd.int .u32) 22 ((w83.setCell ⟨gb10, 0, none⟩ (.int .u32 ((rd_T24 l0 xb).f0))).setCell ⟨gb10, 1, none⟩ (.int .u32 ((rd_T24 l0 xb).f1))) w.heap.size (fun k_ => some k_ ≠ (.slice Ao86 x5_1.length co86 : Value).ownBlock) (.slice Ao85 x4_1.length co85) x4_1) := ⟨by (with_reducible repeat (first | apply rA | apply rN | apply rD)); exact rM (Kd.R_far (p := ⟨gb10, 1, none⟩) (Kd.R_far (p := ⟨gb10, 0, none⟩) (Kd.R_types HO_4.out BK10.out (by decide)) (fun _ hk => hk.2) (.int .u32 ((rd_T24 l0 xb).f0))) (fun _ hk => hk.2) (.int .u32 ((rd_T24 l0 xb).f1))) (fun _ hk => hk.1)⟩
                    have n1_ : Aside0 (Kd.R (Kd.int .u32) 22 ((w83.setCell ⟨gb10, 0, none⟩ (.int .u32 ((rd_T24 l0 xb).f0))).setCell ⟨gb10, 1, none⟩ (.int .u32 ((rd_T24 l0 xb).f1))) w.heap.size (fun k_ => some k_ ≠ (.slice Ao85 x4_1.length co85 : Value).ownBlock) (.slice Ao86 x5_1.length co86) x5_1) := ⟨by (with_reducible repeat (first | apply rA | apply rN | apply rD)); exact rM (Kd.R_far (p := ⟨gb10, 1, none⟩) (Kd.R_far (p := ⟨gb10, 0, none⟩) (Kd.R_types HO_5.out BK10.out (by decide)) (fun _ hk => hk.2) (.int .u32 ((rd_T24 l0 xb).f0))) (fun _ hk => hk.2) (.int .u32 ((rd_T24 l0 xb).f1))) (fun _ hk => hk.1)⟩
                    have n2_ : Aside0 (((w83.setCell ⟨gb10, 0, none⟩ (.int .u32 ((rd_T24 l0 xb).f0))).setCell ⟨gb10, 1, none⟩ (.int .u32 ((rd_T24 l0 xb).f1))).heap[gb10]? = some (.cells #[.int .u32 ((rd_T24 l0 xb).f0), .int .u32 ((rd_T24 l0 xb).f1)] 24 (0, 0))) := ⟨by (with_reducible repeat (first | refine blk_drewN ?_ _ | refine blk_drew ?_ | refine blk_alloc ?_ _)); refine blk_put (cs := #[.int .u32 ((rd_T24 l0 xb).f0), .int .u32 0]) ?_ 1 _ rfl; (with_reducible repeat (first | refine blk_drewN ?_ _ | refine blk_drew ?_ | refine blk_alloc ?_ _)); refine blk_put (cs := #[.int .u32 0, .int .u32 0]) ?_ 0 _ rfl; (with_reducible repeat (first | refine blk_drewN ?_ _ | refine blk_drew ?_ | refine blk_alloc ?_ _)); exact BK10.out⟩
                    have n3_ : Aside0 (Below w.heap.size w ((w83.setCell ⟨gb10, 0, none⟩ (.int .u32 ((rd_T24 l0 xb).f0))).setCell ⟨gb10, 1, none⟩ (.int .u32 ((rd_T24 l0 xb).f1)))) := ⟨by repeat (first | (with_reducible first | exact HB.out | apply lA | apply lN | apply lD | refine below_set ?_ GE10.out) | exact HB.out)⟩
                    (try clear HO_4)
                    (try clear HO_5)
                    (try clear BK10)
                    (try clear HB)
                    generalize ((w83.setCell ⟨gb10, 0, none⟩ (.int .u32 ((rd_T24 l0 xb).f0))).setCell ⟨gb10, 1, none⟩ (.int .u32 ((rd_T24 l0 xb).f1))) = w87 at n0_ n1_ n2_ n3_ ⊢
                    have HO_4 := n0_
                    have HO_5 := n1_
                    have BK10 := n2_
                    have HB := n3_
                    clear n0_ n1_ n2_ n3_
                    have n0_ := Am (Kd.R_drew HO_4.out)
                    have n1_ := Am (Kd.R_drew HO_5.out)
                    have n2_ := Am (blk_drew BK10.out)
                    have n3_ := Am (lD HB.out)
                    clear HO_4
                    clear HO_5
                    clear BK10
                    clear HB
                    have HO_4 := n0_
                    have HO_5 := n1_
                    have BK10 := n2_
                    have HB := n3_
                    clear n0_ n1_ n2_ n3_
                    refine start_ (n := 14) (S := fun w' => w'.cell? ⟨gb10, 0, none⟩ = some (.int .u32 ((rd_T24 l0 xb).f0)) ∧ w'.cell? ⟨gb10, 1, none⟩ = some (.int .u32 ((rd_T24 l0 xb).f1))) (ds := []) #[false, false, false, false, false, false, false, false, false, false, false, false, false, false] (by kernel_rfl) rfl rfl ⟨(blk_cell BK10.out 0).trans rfl, (blk_cell BK10.out 1).trans rfl⟩ (fun hHeld => ?_); refine with_tabW cells_half.tab7 cells_half.bits7 (fun HT_ HW_ => ?_)
                    generalize w87.drew = w88 at HO_4 HO_5 BK10 HB hHeld ⊢
                    refine pure_ (i := 0) (N := some 29) (v := ?_) (a' := ?_) #[true, false, false, false, false, false, false, false, false, false, false, false, false, false] rfl rfl (any_of HT_.out (by kernel_rfl)) (fun _ _ _ h => h) (Or.inl ⟨by rfl, ?_⟩) ?_ ?_
                    rotate_left
                    · intro w'
                      go_simp
                      with_reducible rfl
                    rotate_left
                    · simp only [Act.put, List.setIfInBounds_toArray, List.set_cons_zero, List.set_cons_succ, i64_w, i32_w, IntKind.wrap_u32]
                      rfl
                    refine pure_ (i := 1) (N := some 30) (v := ?_) (a' := ?_) #[true, true, false, false, false, false, false, false, false, false, false, false, false, false] rfl rfl (any_of HT_.out (by kernel_rfl)) (fun _ _ _ h => h) (Or.inl ⟨by rfl, ?_⟩) ?_ ?_
                    rotate_left
                    · intro w'
                      go_simp
                      with_reducible rfl
                    rotate_left
                    · simp only [Act.put, List.setIfInBounds_toArray, List.set_cons_zero, List.set_cons_succ, i64_w, i32_w, IntKind.wrap_u32]
                      rfl
                    refine pure_ (i := 6) (N := some 35) (v := ?_) (a' := ?_) #[true, true, false, false, false, false, true, false, false, false, false, false, false, false] rfl rfl (any_of HT_.out (by kernel_rfl)) (fun _ _ _ h => h) (Or.inl ⟨by rfl, ?_⟩) ?_ ?_
                    rotate_left
                    · intro w'
                      go_simp
                      with_reducible rfl
                    rotate_left
                    · simp only [Act.put, List.setIfInBounds_toArray, List.set_cons_zero, List.set_cons_succ, i64_w, i32_w, IntKind.wrap_u32]
                      rfl
                    refine pure_ (i := 7) (N := some 36) (v := ?_) (a' := ?_) #[true, true, false, false, false, false, true, true, false, false, false, false, false, false] rfl rfl (any_of HT_.out (by kernel_rfl)) (fun _ _ _ h => h) (Or.inl ⟨by rfl, ?_⟩) ?_ ?_
                    rotate_left
                    · intro w'
                      go_simp
                      with_reducible rfl
                    rotate_left
                    · simp only [Act.put, List.setIfInBounds_toArray, List.set_cons_zero, List.set_cons_succ, i64_w, i32_w, IntKind.wrap_u32]
                      rfl
                    refine take_ (i := 2) (N := some 31) (v := ?_) (a' := ?_) #[true, true, true, false, false, false, true, true, false, false, false, false, false, false] rfl rfl (take_ofW HT_.out HW_.out (by kernel_rfl)) (fun _ _ _ h => h) (Or.inl ⟨by rfl, ?_⟩) hHeld ?_ ?_
                    rotate_left
                    · rintro w' ⟨s0, s1⟩
                      go_simp
                      with_reducible rfl
                    rotate_left
                    · simp only [Act.put, List.setIfInBounds_toArray, List.set_cons_zero, List.set_cons_succ, i64_w, i32_w, IntKind.wrap_u32]
                      rfl
                    refine pure_ (i := 3) (N := some 32) (v := ?_) (a' := ?_) #[true, true, true, true, false, false, true, true, false, false, false, false, false, false] rfl rfl (any_of HT_.out (by kernel_rfl)) (fun _ _ _ h => h) (Or.inl ⟨by rfl, ?_⟩) ?_ ?_
                    rotate_left
                    · intro w'
                      go_simp
                      with_reducible rfl
                    rotate_left
                    · simp only [Act.put, List.setIfInBounds_toArray, List.set_cons_zero, List.set_cons_succ, i64_w, i32_w, IntKind.wrap_u32]
                      rfl
                    refine take_ (i := 8) (N := some 37) (v := ?_) (a' := ?_) #[true, true, true, true, false, false, true, true, true, false, false, false, false, false] rfl rfl (take_ofW HT_.out HW_.out (by kernel_rfl)) (fun _ _ _ h => h) (Or.inl ⟨by rfl, ?_⟩) hHeld ?_ ?_
                    rotate_left
                    · rintro w' ⟨s0, s1⟩
                      go_simp
                      with_reducible rfl
                    rotate_left
                    · simp only [Act.put, List.setIfInBounds_toArray, List.set_cons_zero, List.set_cons_succ, i64_w, i32_w, IntKind.wrap_u32]
                      rfl
                    refine pure_ (i := 9) (N := some 38) (v := ?_) (a' := ?_) #[true, true, true, true, false, false, true, true, true, true, false, false, false, false] rfl rfl (any_of HT_.out (by kernel_rfl)) (fun _ _ _ h => h) (Or.inl ⟨by rfl, ?_⟩) ?_ ?_
                    rotate_left
                    · intro w'
                      go_simp
                      with_reducible rfl
                    rotate_left
                    · simp only [Act.put, List.setIfInBounds_toArray, List.set_cons_zero, List.set_cons_succ, i64_w, i32_w, IntKind.wrap_u32]
                      rfl
                    refine join_ (σ := Value × Value × Value) 3 #[true, true, true, true, true, true, true, true, true, true, true, false, false, false] (fun s_ => [(33, s_.1), (34, s_.2.1), (39, s_.2.2)]) (fun s_ w' => (w'.cell? ⟨gb10, 0, none⟩ = some (.int .u32 ((rd_T24 l0 xb).f0)) ∧ w'.cell? ⟨gb10, 1, none⟩ = some (.int .u32 ((rd_T24 l0 xb).f1))) ∧ (Kd.R (Kd.int .u32) 22 w' w.heap.size (fun k_ => some k_ ≠ (s_.2.1 : Value).ownBlock ∧ some k_ ≠ (s_.2.2 : Value).ownBlock ∧ some k_ ≠ (.slice Ao86 x5_1.length co86 : Value).ownBlock) s_.1 y11) ∧ (Kd.R (Kd.int .u32) 22 w' w.heap.size (fun k_ => some k_ ≠ (s_.1 : Value).ownBlock ∧ some k_ ≠ (s_.2.2 : Value).ownBlock ∧ some k_ ≠ (.slice Ao86 x5_1.length co86 : Value).ownBlock) s_.2.1 y14) ∧ (Kd.R (Kd.int .u32) 22 w' w.heap.size (fun k_ => some k_ ≠ (s_.1 : Value).ownBlock ∧ some k_ ≠ (s_.2.1 : Value).ownBlock ∧ some k_ ≠ (.slice Ao86 x5_1.length co86 : Value).ownBlock) s_.2.2 y17) ∧ (Kd.R (Kd.int .u32) 22 w' w.heap.size (fun k_ => some k_ ≠ (s_.1 : Value).ownBlock ∧ some k_ ≠ (s_.2.1 : Value).ownBlock ∧ some k_ ≠ (s_.2.2 : Value).ownBlock) (.slice Ao86 x5_1.length co86) x5_1) ∧ (w'.heap[gb10]? = some (.cells #[.int .u32 ((rd_T24 l0 xb).f0), .int .u32 ((rd_T24 l0 xb).f1)] 24 (0, 0))) ∧ (Below w.heap.size w w')) ?_ ?_
                    rotate_left
                    · intro hCont
                      refine two_ (i := 4) (j := 10) (Ni := some 33) (Nj := some 39) #[true, true, true, true, true, false, true, true, true, true, false, false, false, false] #[true, true, true, true, false, false, true, true, true, true, true, false, false, false] rfl rfl rfl rfl (two_of HT_.out (by kernel_rfl)) (by decide) (by decide) (fun K hK => ?_) (fun K hK => ?_)
                      · skip
                        refine Kd.R_lit_step (Kd.int .u32) _ 22 ?hg (N := 33) ?hd (xs := ([(Int.tdiv ((rd_T24 l0 xb).f0) 65536) % 4294967296] : List Int)) (inner := [.int .u32 ((Int.tdiv ((rd_T24 l0 xb).f0) 65536) % 4294967296)]) (ok := fun _ => True) (okp := fun _ => True) ?hr ?hp (fun _ hk => hk) trivial (Below.refl _ _) (Nat.le_refl _) (by simp) ?_; (case hd => rfl); (case hg => rfl); (case hr => first | (go_simp; done) | (go_simp; rfl)); (case hp => exact (Reps.one (show Kd.M (Kd.int .u32) _ _ _ ((Int.tdiv ((rd_T24 l0 xb).f0) 65536) % 4294967296) [.int .u32 ((Int.tdiv ((rd_T24 l0 xb).f0) 65536) % 4294967296)] from rfl) (Reps.none _ _)))
                        intro v12 w89 ho90 hb hg_ hnew_
                        clear hg_ hnew_
                        (first | rw [← Ny11.out] at ho90 | (simp only [Int.reduceToNat] at ho90; rw [← Ny11.out] at ho90))
                        have n0_ := Am (Kd.R_elder' (by (with_reducible repeat (first | apply rA | apply rN | apply rD)); exact HO_4.out) (Kd.R_base ho90) hb)
                        have n1_ := Am (Kd.R_elder' (by (with_reducible repeat (first | apply rA | apply rN | apply rD)); exact HO_5.out) (Kd.R_base ho90) hb)
                        have n2_ := Am (Kd.R_lower (Kd.R_new' (Kd.R_new' ho90 (rL (by (with_reducible repeat (first | apply rA | apply rN | apply rD)); exact HO_4.out))) (rL (by (with_reducible repeat (first | apply rA | apply rN | apply rD)); exact HO_5.out))) (below_size (by repeat (first | (with_reducible first | exact HB.out | apply lA | apply lN | apply lD | refine below_set ?_ GE10.out) | exact HB.out))))
                        have n3_ := Am (blk_below (g := gb10) (o := .cells #[.int .u32 ((rd_T24 l0 xb).f0), .int .u32 ((rd_T24 l0 xb).f1)] 24 (0, 0)) (by (with_reducible repeat (first | refine blk_drewN ?_ _ | refine blk_drew ?_ | refine blk_alloc ?_ _)); exact BK10.out) hb)
                        have n4_ := Am (below_step (by repeat (first | (with_reducible first | exact HB.out | apply lA | apply lN | apply lD | refine below_set ?_ GE10.out) | exact HB.out)) hb)
                        clear HO_4
                        clear HO_5
                        clear BK10
                        clear HB
                        have HO_4 := n0_
                        have HO_5 := n1_
                        have HO13 := n2_
                        have BK10 := n3_
                        have HB := n4_
                        clear n0_ n1_ n2_ n3_ n4_
                        clear hb ho90
                        obtain ⟨Ao92, co92, eo92⟩ := Kd.R_slice HO13.out
                        (first | subst eo92 | (injection eo92 with f1_ f2_ f3_; have f4_ := f1_.symm; have f5_ := f3_.symm; clear f1_ f2_ f3_; subst f4_; subst f5_))
                        refine hK.out _ _ ⟨(blk_cell BK10.out 0).trans rfl, (blk_cell BK10.out 1).trans rfl⟩ (fun hHeld => ?_)
                        clear hK K
                        refine norm_ (a' := ?_) ?_ ?_
                        rotate_left
                        · show Act.put _ (some 33) _ = _
                          simp only [Act.put, List.setIfInBounds_toArray, List.set_cons_zero, List.set_cons_succ, i64_w, i32_w, IntKind.wrap_u32]
                          rfl
                        refine two_ (i := 5) (j := 10) (Ni := some 34) (Nj := some 39) #[true, true, true, true, true, true, true, true, true, true, false, false, false, false] #[true, true, true, true, true, false, true, true, true, true, true, false, false, false] rfl rfl rfl rfl (two_of HT_.out (by kernel_rfl)) (by decide) (by decide) (fun K hK => ?_) (fun K hK => ?_)
                        · skip
                          refine Kd.R_append_rows_step (Kd.int .u32) (w0 := w) w.heap.size (by rfl) (.tmp 29) (.tmp 33) 31 22 (.int .u32 0) 4 rfl Try.underlying31 info22 rfl (by decide) (by omega) (.slice Ao85 x4_1.length co85) x4_1 y11 _ _ _ (fun k_ => some k_ ≠ (.slice Ao86 x5_1.length co86 : Value).ownBlock ∧ some k_ ≠ (.slice Ao92 y11.length co92 : Value).ownBlock) (fun _ => False) rfl rfl ?aO ?aR (fun _ _ h => h) (fun _ h => h.elim) ?aF ?aB ?aS ?aL ?_
                          (case aR => repeat (first | exact (Kd.R_reads' HO13.out).2.2 | (with_reducible refine Kd.C_alloc ?_ _) | (with_reducible refine Kd.C_drewN ?_ _) | (with_reducible refine Kd.C_drew ?_)))
                          (case aB => exact (by repeat (first | (with_reducible first | exact HB.out | apply lA | apply lN | apply lD | refine below_set ?_ GE10.out) | exact HB.out)))
                          (case aF => exact (fun k_ hk => ⟨Kd.fresh' (rL (by (with_reducible repeat (first | apply rA | apply rN | apply rD)); exact HO_5.out)) k_ hk, Kd.fresh' (rL (by (with_reducible repeat (first | apply rA | apply rN | apply rD)); exact HO13.out)) k_ hk⟩))
                          (case aO => exact (by (with_reducible repeat (first | apply rA | apply rN | apply rD)); exact HO_4.out))
                          (case aS => exact (below_size (by repeat (first | (with_reducible first | exact HB.out | apply lA | apply lN | apply lD | refine below_set ?_ GE10.out) | exact HB.out))))
                          (case aL => have := LMc9.out; omega)
                          intro v15 w91 ho hb hg hat
                          rw [← Ny14.out] at ho
                          have n0_ := Am (Kd.R_after (ok := (fun k_ => some k_ ≠ (.slice Ao92 y11.length co92 : Value).ownBlock)) (by (with_reducible repeat (first | apply rA | apply rN | apply rD)); exact rM HO_5.out (fun _ hk => ⟨hk.2, hk.1⟩)) hg hat)
                          have n1_ := Am (blk_grown (g := gb10) (o := .cells #[.int .u32 ((rd_T24 l0 xb).f0), .int .u32 ((rd_T24 l0 xb).f1)] 24 (0, 0)) (by (with_reducible repeat (first | refine blk_drewN ?_ _ | refine blk_drew ?_ | refine blk_alloc ?_ _)); exact BK10.out) hg (Kd.R_ne HO_4.out BK10.out (by decide)))
                          have n2_ := Am (Kd.R_after (ok := (fun k_ => some k_ ≠ (.slice Ao86 x5_1.length co86 : Value).ownBlock)) (by (with_reducible repeat (first | apply rA | apply rN | apply rD)); exact rM HO13.out (fun _ hk => ⟨hk.2, hk.1.2⟩)) hg hat)
                          have n3_ := Am (hb)
                          have n4_ := Am (ho)
                          clear HO_5
                          clear BK10
                          clear HO13
                          clear HB
                          clear HO_4
                          have HO_5 := n0_
                          have BK10 := n1_
                          have HO13 := n2_
                          have HB := n3_
                          have HO16 := n4_
                          clear n0_ n1_ n2_ n3_ n4_
                          clear ho hb hg hat
                          refine hK.out _ _ ⟨(blk_cell BK10.out 0).trans rfl, (blk_cell BK10.out 1).trans rfl⟩ (fun hHeld => ?_)
                          clear hK K
                          refine norm_ (a' := ?_) ?_ ?_
                          rotate_left
                          · show Act.put _ (some 34) _ = _
                            simp only [Act.put, List.setIfInBounds_toArray, List.set_cons_zero, List.set_cons_succ, i64_w, i32_w, IntKind.wrap_u32]
                            rfl
                          refine one_ (i := 10) (N := some 39) #[true, true, true, true, true, true, true, true, true, true, true, false, false, false] rfl rfl (one_of HT_.out (by kernel_rfl)) (by decide) (fun K hK => ?_)
                          refine Kd.R_lit_step (Kd.int .u32) _ 22 ?hg (N := 39) ?hd (xs := ([Int.tmod ((rd_T24 l0 xb).f0) 65536] : List Int)) (inner := [.int .u32 (Int.tmod ((rd_T24 l0 xb).f0) 65536)]) (ok := fun _ => True) (okp := fun _ => True) ?hr ?hp (fun _ hk => hk) trivial (Below.refl _ _) (Nat.le_refl _) (by simp) ?_; (case hd => rfl); (case hg => rfl); (case hr => first | (go_simp; done) | (go_simp; rfl)); (case hp => exact (Reps.one (show Kd.M (Kd.int .u32) _ _ _ (Int.tmod ((rd_T24 l0 xb).f0) 65536) [.int .u32 (Int.tmod ((rd_T24 l0 xb).f0) 65536)] from rfl) (Reps.none _ _)))
                          intro v18 w93 ho94 hb hg_ hnew_
                          clear hg_ hnew_
                          (first | rw [← Ny17.out] at ho94 | (simp only [Int.reduceToNat] at ho94; rw [← Ny17.out] at ho94))
                          have n0_ := Am (Kd.R_elder' (by (with_reducible repeat (first | apply rA | apply rN | apply rD)); exact HO_5.out) (Kd.R_base ho94) hb)
                          have n1_ := Am (Kd.R_elder' (by (with_reducible repeat (first | apply rA | apply rN | apply rD)); exact HO13.out) (Kd.R_base ho94) hb)
                          have n2_ := Am (Kd.R_elder' (by (with_reducible repeat (first | apply rA | apply rN | apply rD)); exact HO16.out) (Kd.R_base ho94) hb)
                          have n3_ := Am (Kd.R_lower (Kd.R_new' (Kd.R_new' (Kd.R_new' ho94 (rL (by (with_reducible repeat (first | apply rA | apply rN | apply rD)); exact HO_5.out))) (rL (by (with_reducible repeat (first | apply rA | apply rN | apply rD)); exact HO13.out))) (rL (by (with_reducible repeat (first | apply rA | apply rN | apply rD)); exact HO16.out))) (below_size (by repeat (first | (with_reducible first | exact HB.out | apply lA | apply lN | apply lD | refine below_set ?_ GE10.out) | exact HB.out))))
                          have n4_ := Am (blk_below (g := gb10) (o := .cells #[.int .u32 ((rd_T24 l0 xb).f0), .int .u32 ((rd_T24 l0 xb).f1)] 24 (0, 0)) (by (with_reducible repeat (first | refine blk_drewN ?_ _ | refine blk_drew ?_ | refine blk_alloc ?_ _)); exact BK10.out) hb)
                          have n5_ := Am (below_step (by repeat (first | (with_reducible first | exact HB.out | apply lA | apply lN | apply lD | refine below_set ?_ GE10.out) | exact HB.out)) hb)
                          clear HO_5
                          clear HO13
                          clear HO16
                          clear BK10
                          clear HB
                          have HO_5 := n0_
                          have HO13 := n1_
                          have HO16 := n2_
                          have HO19 := n3_
                          have BK10 := n4_
                          have HB := n5_
                          clear n0_ n1_ n2_ n3_ n4_ n5_
                          clear hb ho94
                          refine hK.out _ _ ⟨(blk_cell BK10.out 0).trans rfl, (blk_cell BK10.out 1).trans rfl⟩ (fun hHeld => ?_)
                          clear hK K
                          refine norm_ (a' := ?_) ?_ ?_
                          rotate_left
                          · show Act.put _ (some 39) _ = _
                            simp only [Act.put, List.setIfInBounds_toArray, List.set_cons_zero, List.set_cons_succ, i64_w, i32_w, IntKind.wrap_u32]
                            rfl
                          exact norm_ (by simp only [putAll, Act.put, List.setIfInBounds_toArray, List.set_cons_zero, List.set_cons_succ]) (hCont (.slice Ao92 y11.length co92, v15, v18) _ ⟨hHeld, (by (with_reducible repeat (first | apply rA | apply rN | apply rD)); exact rM HO13.out (fun _ hk => ⟨hk.1.2, ⟨hk.2, hk.1.1⟩⟩)), (by (with_reducible repeat (first | apply rA | apply rN | apply rD)); exact rM HO16.out (fun _ hk => ⟨hk.1.2, ⟨hk.2, hk.1.1⟩⟩)), (by (with_reducible repeat (first | apply rA | apply rN | apply rD)); exact rM HO19.out (fun _ hk => ⟨hk.1.2, ⟨hk.2, hk.1.1.2⟩⟩)), (by (with_reducible repeat (first | apply rA | apply rN | apply rD)); exact rM HO_5.out (fun _ hk => ⟨hk.1.1, ⟨hk.1.2, hk.2⟩⟩)), (by (with_reducible repeat (first | refine blk_drewN ?_ _ | refine blk_drew ?_ | refine blk_alloc ?_ _)); exact BK10.out), (by repeat (first | (with_reducible first | exact HB.out | apply lA | apply lN | apply lD | refine below_set ?_ GE10.out) | exact HB.out))⟩)
                        · skip
                          refine Kd.R_lit_step (Kd.int .u32) _ 22 ?hg (N := 39) ?hd (xs := ([Int.tmod ((rd_T24 l0 xb).f0) 65536] : List Int)) (inner := [.int .u32 (Int.tmod ((rd_T24 l0 xb).f0) 65536)]) (ok := fun _ => True) (okp := fun _ => True) ?hr ?hp (fun _ hk => hk) trivial (Below.refl _ _) (Nat.le_refl _) (by simp) ?_; (case hd => rfl); (case hg => rfl); (case hr => first | (go_simp; done) | (go_simp; rfl)); (case hp => exact (Reps.one (show Kd.M (Kd.int .u32) _ _ _ (Int.tmod ((rd_T24 l0 xb).f0) 65536) [.int .u32 (Int.tmod ((rd_T24 l0 xb).f0) 65536)] from rfl) (Reps.none _ _)))
                          intro v18 w91 ho92 hb hg_ hnew_
                          clear hg_ hnew_
                          (first | rw [← Ny17.out] at ho92 | (simp only [Int.reduceToNat] at ho92; rw [← Ny17.out] at ho92))
                          have n0_ := Am (Kd.R_elder' (by (with_reducible repeat (first | apply rA | apply rN | apply rD)); exact HO_4.out) (Kd.R_base ho92) hb)
                          have n1_ := Am (Kd.R_elder' (by (with_reducible repeat (first | apply rA | apply rN | apply rD)); exact HO_5.out) (Kd.R_base ho92) hb)
                          have n2_ := Am (Kd.R_elder' (by (with_reducible repeat (first | apply rA | apply rN | apply rD)); exact HO13.out) (Kd.R_base ho92) hb)
                          have n3_ := Am (Kd.R_lower (Kd.R_new' (Kd.R_new' (Kd.R_new' ho92 (rL (by (with_reducible repeat (first | apply rA | apply rN | apply rD)); exact HO_4.out))) (rL (by (with_reducible repeat (first | apply rA | apply rN | apply rD)); exact HO_5.out))) (rL (by (with_reducible repeat (first | apply rA | apply rN | apply rD)); exact HO13.out))) (below_size (by repeat (first | (with_reducible first | exact HB.out | apply lA | apply lN | apply lD | refine below_set ?_ GE10.out) | exact HB.out))))
                          have n4_ := Am (blk_below (g := gb10) (o := .cells #[.int .u32 ((rd_T24 l0 xb).f0), .int .u32 ((rd_T24 l0 xb).f1)] 24 (0, 0)) (by (with_reducible repeat (first | refine blk_drewN ?_ _ | refine blk_drew ?_ | refine blk_alloc ?_ _)); exact BK10.out) hb)
                          have n5_ := Am (below_step (by repeat (first | (with_reducible first | exact HB.out | apply lA | apply lN | apply lD | refine below_set ?_ GE10.out) | exact HB.out)) hb)
                          clear HO_4
                          clear HO_5
                          clear HO13
                          clear BK10
                          clear HB
                          have HO_4 := n0_
                          have HO_5 := n1_
                          have HO13 := n2_
                          have HO19 := n3_
                          have BK10 := n4_
                          have HB := n5_
                          clear n0_ n1_ n2_ n3_ n4_ n5_
                          clear hb ho92
                          obtain ⟨Ao94, co94, eo94⟩ := Kd.R_slice HO13.out
                          (first | subst eo94 | (injection eo94 with f1_ f2_ f3_; have f4_ := f1_.symm; have f5_ := f3_.symm; clear f1_ f2_ f3_; subst f4_; subst f5_))
                          refine hK.out _ _ ⟨(blk_cell BK10.out 0).trans rfl, (blk_cell BK10.out 1).trans rfl⟩ (fun hHeld => ?_)
                          clear hK K
                          refine norm_ (a' := ?_) ?_ ?_
                          rotate_left
                          · show Act.put _ (some 39) _ = _
                            simp only [Act.put, List.setIfInBounds_toArray, List.set_cons_zero, List.set_cons_succ, i64_w, i32_w, IntKind.wrap_u32]
                            rfl
                          refine one_ (i := 5) (N := some 34) #[true, true, true, true, true, true, true, true, true, true, true, false, false, false] rfl rfl (one_of HT_.out (by kernel_rfl)) (by decide) (fun K hK => ?_)
                          refine Kd.R_append_rows_step (Kd.int .u32) (w0 := w) w.heap.size (by rfl) (.tmp 29) (.tmp 33) 31 22 (.int .u32 0) 4 rfl Try.underlying31 info22 rfl (by decide) (by omega) (.slice Ao85 x4_1.length co85) x4_1 y11 _ _ _ (fun k_ => some k_ ≠ (.slice Ao86 x5_1.length co86 : Value).ownBlock ∧ some k_ ≠ (.slice Ao94 y11.length co94 : Value).ownBlock ∧ some k_ ≠ (v18 : Value).ownBlock) (fun _ => False) rfl rfl ?aO ?aR (fun _ _ h => h) (fun _ h => h.elim) ?aF ?aB ?aS ?aL ?_
                          (case aR => repeat (first | exact (Kd.R_reads' HO13.out).2.2 | (with_reducible refine Kd.C_alloc ?_ _) | (with_reducible refine Kd.C_drewN ?_ _) | (with_reducible refine Kd.C_drew ?_)))
                          (case aB => exact (by repeat (first | (with_reducible first | exact HB.out | apply lA | apply lN | apply lD | refine below_set ?_ GE10.out) | exact HB.out)))
                          (case aF => exact (fun k_ hk => ⟨Kd.fresh' (rL (by (with_reducible repeat (first | apply rA | apply rN | apply rD)); exact HO_5.out)) k_ hk, Kd.fresh' (rL (by (with_reducible repeat (first | apply rA | apply rN | apply rD)); exact HO13.out)) k_ hk, Kd.fresh' (rL (by (with_reducible repeat (first | apply rA | apply rN | apply rD)); exact HO19.out)) k_ hk⟩))
                          (case aO => exact (by (with_reducible repeat (first | apply rA | apply rN | apply rD)); exact rM HO_4.out (fun _ hk => ⟨hk.1.1, ⟨hk.1.2, hk.2⟩⟩)))
                          (case aS => exact (below_size (by repeat (first | (with_reducible first | exact HB.out | apply lA | apply lN | apply lD | refine below_set ?_ GE10.out) | exact HB.out))))
                          (case aL => have := LMc9.out; omega)
                          intro v15 w93 ho hb hg hat
                          rw [← Ny14.out] at ho
                          have n0_ := Am (Kd.R_after (ok := (fun k_ => some k_ ≠ (.slice Ao94 y11.length co94 : Value).ownBlock ∧ some k_ ≠ (v18 : Value).ownBlock)) (by (with_reducible repeat (first | apply rA | apply rN | apply rD)); exact rM HO_5.out (fun _ hk => ⟨⟨hk.1.2, hk.2⟩, hk.1.1⟩)) hg hat)
                          have n1_ := Am (blk_grown (g := gb10) (o := .cells #[.int .u32 ((rd_T24 l0 xb).f0), .int .u32 ((rd_T24 l0 xb).f1)] 24 (0, 0)) (by (with_reducible repeat (first | refine blk_drewN ?_ _ | refine blk_drew ?_ | refine blk_alloc ?_ _)); exact BK10.out) hg (Kd.R_ne HO_4.out BK10.out (by decide)))
                          have n2_ := Am (Kd.R_after (ok := (fun k_ => some k_ ≠ (.slice Ao86 x5_1.length co86 : Value).ownBlock ∧ some k_ ≠ (v18 : Value).ownBlock)) (by (with_reducible repeat (first | apply rA | apply rN | apply rD)); exact rM HO13.out (fun _ hk => ⟨⟨hk.1.2, hk.2⟩, hk.1.1.2⟩)) hg hat)
                          have n3_ := Am (Kd.R_after (ok := (fun k_ => some k_ ≠ (.slice Ao86 x5_1.length co86 : Value).ownBlock ∧ some k_ ≠ (.slice Ao94 y11.length co94 : Value).ownBlock)) (by (with_reducible repeat (first | apply rA | apply rN | apply rD)); exact rM HO19.out (fun _ hk => ⟨⟨hk.1.2, hk.2⟩, hk.1.1.2⟩)) hg hat)
                          have n4_ := Am (hb)
                          have n5_ := Am (ho)
                          clear HO_5
                          clear BK10
                          clear HO13
                          clear HO19
                          clear HB
                          clear HO_4
                          have HO_5 := n0_
                          have BK10 := n1_
                          have HO13 := n2_
                          have HO19 := n3_
                          have HB := n4_
                          have HO16 := n5_
                          clear n0_ n1_ n2_ n3_ n4_ n5_
                          clear ho hb hg hat
                          refine hK.out _ _ ⟨(blk_cell BK10.out 0).trans rfl, (blk_cell BK10.out 1).trans rfl⟩ (fun hHeld => ?_)
                          clear hK K
                          refine norm_ (a' := ?_) ?_ ?_
                          rotate_left
                          · show Act.put _ (some 34) _ = _
                            simp only [Act.put, List.setIfInBounds_toArray, List.set_cons_zero, List.set_cons_succ, i64_w, i32_w, IntKind.wrap_u32]
                            rfl
                          exact norm_ (by simp only [putAll, Act.put, List.setIfInBounds_toArray, List.set_cons_zero, List.set_cons_succ]) (hCont (.slice Ao94 y11.length co94, v15, v18) _ ⟨hHeld, (by (with_reducible repeat (first | apply rA | apply rN | apply rD)); exact rM HO13.out (fun _ hk => ⟨hk.2, ⟨hk.1.2, hk.1.1⟩⟩)), (by (with_reducible repeat (first | apply rA | apply rN | apply rD)); exact rM HO16.out (fun _ hk => ⟨hk.2.1, ⟨hk.2.2, hk.1⟩⟩)), (by (with_reducible repeat (first | apply rA | apply rN | apply rD)); exact rM HO19.out (fun _ hk => ⟨hk.1.2, ⟨hk.2, hk.1.1⟩⟩)), (by (with_reducible repeat (first | apply rA | apply rN | apply rD)); exact rM HO_5.out (fun _ hk => ⟨hk.1.1, ⟨hk.2, hk.1.2⟩⟩)), (by (with_reducible repeat (first | refine blk_drewN ?_ _ | refine blk_drew ?_ | refine blk_alloc ?_ _)); exact BK10.out), (by repeat (first | (with_reducible first | exact HB.out | apply lA | apply lN | apply lD | refine below_set ?_ GE10.out) | exact HB.out))⟩)
                      · skip
                        refine Kd.R_lit_step (Kd.int .u32) _ 22 ?hg (N := 39) ?hd (xs := ([Int.tmod ((rd_T24 l0 xb).f0) 65536] : List Int)) (inner := [.int .u32 (Int.tmod ((rd_T24 l0 xb).f0) 65536)]) (ok := fun _ => True) (okp := fun _ => True) ?hr ?hp (fun _ hk => hk) trivial (Below.refl _ _) (Nat.le_refl _) (by simp) ?_; (case hd => rfl); (case hg => rfl); (case hr => first | (go_simp; done) | (go_simp; rfl)); (case hp => exact (Reps.one (show Kd.M (Kd.int .u32) _ _ _ (Int.tmod ((rd_T24 l0 xb).f0) 65536) [.int .u32 (Int.tmod ((rd_T24 l0 xb).f0) 65536)] from rfl) (Reps.none _ _)))
                        intro v18 w89 ho90 hb hg_ hnew_
                        clear hg_ hnew_
                        (first | rw [← Ny17.out] at ho90 | (simp only [Int.reduceToNat] at ho90; rw [← Ny17.out] at ho90))
                        have n0_ := Am (Kd.R_elder' (by (with_reducible repeat (first | apply rA | apply rN | apply rD)); exact HO_4.out) (Kd.R_base ho90) hb)
                        have n1_ := Am (Kd.R_elder' (by (with_reducible repeat (first | apply rA | apply rN | apply rD)); exact HO_5.out) (Kd.R_base ho90) hb)
                        have n2_ := Am (Kd.R_lower (Kd.R_new' (Kd.R_new' ho90 (rL (by (with_reducible repeat (first | apply rA | apply rN | apply rD)); exact HO_4.out))) (rL (by (with_reducible repeat (first | apply rA | apply rN | apply rD)); exact HO_5.out))) (below_size (by repeat (first | (with_reducible first | exact HB.out | apply lA | apply lN | apply lD | refine below_set ?_ GE10.out) | exact HB.out))))
                        have n3_ := Am (blk_below (g := gb10) (o := .cells #[.int .u32 ((rd_T24 l0 xb).f0), .int .u32 ((rd_T24 l0 xb).f1)] 24 (0, 0)) (by (with_reducible repeat (first | refine blk_drewN ?_ _ | refine blk_drew ?_ | refine blk_alloc ?_ _)); exact BK10.out) hb)
                        have n4_ := Am (below_step (by repeat (first | (with_reducible first | exact HB.out | apply lA | apply lN | apply lD | refine below_set ?_ GE10.out) | exact HB.out)) hb)
                        clear HO_4
                        clear HO_5
                        clear BK10
                        clear HB
                        have HO_4 := n0_
                        have HO_5 := n1_
                        have HO19 := n2_
                        have BK10 := n3_
                        have HB := n4_
                        clear n0_ n1_ n2_ n3_ n4_
                        clear hb ho90
                        refine hK.out _ _ ⟨(blk_cell BK10.out 0).trans rfl, (blk_cell BK10.out 1).trans rfl⟩ (fun hHeld => ?_)
                        clear hK K
                        refine norm_ (a' := ?_) ?_ ?_
                        rotate_left
                        · show Act.put _ (some 39) _ = _
                          simp only [Act.put, List.setIfInBounds_toArray, List.set_cons_zero, List.set_cons_succ, i64_w, i32_w, IntKind.wrap_u32]
                          rfl
                        refine one_ (i := 4) (N := some 33) #[true, true, true, true, true, false, true, true, true, true, true, false, false, false] rfl rfl (one_of HT_.out (by kernel_rfl)) (by decide) (fun K hK => ?_)
                        refine Kd.R_lit_step (Kd.int .u32) _ 22 ?hg (N := 33) ?hd (xs := ([(Int.tdiv ((rd_T24 l0 xb).f0) 65536) % 4294967296] : List Int)) (inner := [.int .u32 ((Int.tdiv ((rd_T24 l0 xb).f0) 65536) % 4294967296)]) (ok := fun _ => True) (okp := fun _ => True) ?hr ?hp (fun _ hk => hk) trivial (Below.refl _ _) (Nat.le_refl _) (by simp) ?_; (case hd => rfl); (case hg => rfl); (case hr => first | (go_simp; done) | (go_simp; rfl)); (case hp => exact (Reps.one (show Kd.M (Kd.int .u32) _ _ _ ((Int.tdiv ((rd_T24 l0 xb).f0) 65536) % 4294967296) [.int .u32 ((Int.tdiv ((rd_T24 l0 xb).f0) 65536) % 4294967296)] from rfl) (Reps.none _ _)))
                        intro v12 w91 ho92 hb hg_ hnew_
                        clear hg_ hnew_
                        (first | rw [← Ny11.out] at ho92 | (simp only [Int.reduceToNat] at ho92; rw [← Ny11.out] at ho92))
                        have n0_ := Am (Kd.R_elder' (by (with_reducible repeat (first | apply rA | apply rN | apply rD)); exact HO_4.out) (Kd.R_base ho92) hb)
                        have n1_ := Am (Kd.R_elder' (by (with_reducible repeat (first | apply rA | apply rN | apply rD)); exact HO_5.out) (Kd.R_base ho92) hb)
                        have n2_ := Am (Kd.R_elder' (by (with_reducible repeat (first | apply rA | apply rN | apply rD)); exact HO19.out) (Kd.R_base ho92) hb)
                        have n3_ := Am (Kd.R_lower (Kd.R_new' (Kd.R_new' (Kd.R_new' ho92 (rL (by (with_reducible repeat (first | apply rA | apply rN | apply rD)); exact HO_4.out))) (rL (by (with_reducible repeat (first | apply rA | apply rN | apply rD)); exact HO_5.out))) (rL (by (with_reducible repeat (first | apply rA | apply rN | apply rD)); exact HO19.out))) (below_size (by repeat (first | (with_reducible first | exact HB.out | apply lA | apply lN | apply lD | refine below_set ?_ GE10.out) | exact HB.out))))
                        have n4_ := Am (blk_below (g := gb10) (o := .cells #[.int .u32 ((rd_T24 l0 xb).f0), .int .u32 ((rd_T24 l0 xb).f1)] 24 (0, 0)) (by (with_reducible repeat (first | refine blk_drewN ?_ _ | refine blk_drew ?_ | refine blk_alloc ?_ _)); exact BK10.out) hb)
                        have n5_ := Am (below_step (by repeat (first | (with_reducible first | exact HB.out | apply lA | apply lN | apply lD | refine below_set ?_ GE10.out) | exact HB.out)) hb)
                        clear HO_4
                        clear HO_5
                        clear HO19
                        clear BK10
                        clear HB
                        have HO_4 := n0_
                        have HO_5 := n1_
                        have HO19 := n2_
                        have HO13 := n3_
                        have BK10 := n4_
                        have HB := n5_
                        clear n0_ n1_ n2_ n3_ n4_ n5_
                        clear hb ho92
                        obtain ⟨Ao94, co94, eo94⟩ := Kd.R_slice HO13.out
                        (first | subst eo94 | (injection eo94 with f1_ f2_ f3_; have f4_ := f1_.symm; have f5_ := f3_.symm; clear f1_ f2_ f3_; subst f4_; subst f5_))
                        refine hK.out _ _ ⟨(blk_cell BK10.out 0).trans rfl, (blk_cell BK10.out 1).trans rfl⟩ (fun hHeld => ?_)
                        clear hK K
                        refine norm_ (a' := ?_) ?_ ?_
                        rotate_left
                        · show Act.put _ (some 33) _ = _
                          simp only [Act.put, List.setIfInBounds_toArray, List.set_cons_zero, List.set_cons_succ, i64_w, i32_w, IntKind.wrap_u32]
                          rfl
                        refine one_ (i := 5) (N := some 34) #[true, true, true, true, true, true, true, true, true, true, true, false, false, false] rfl rfl (one_of HT_.out (by kernel_rfl)) (by decide) (fun K hK => ?_)
                        refine Kd.R_append_rows_step (Kd.int .u32) (w0 := w) w.heap.size (by rfl) (.tmp 29) (.tmp 33) 31 22 (.int .u32 0) 4 rfl Try.underlying31 info22 rfl (by decide) (by omega) (.slice Ao85 x4_1.length co85) x4_1 y11 _ _ _ (fun k_ => some k_ ≠ (.slice Ao86 x5_1.length co86 : Value).ownBlock ∧ some k_ ≠ (v18 : Value).ownBlock ∧ some k_ ≠ (.slice Ao94 y11.length co94 : Value).ownBlock) (fun _ => False) rfl rfl ?aO ?aR (fun _ _ h => h) (fun _ h => h.elim) ?aF ?aB ?aS ?aL ?_
                        (case aR => repeat (first | exact (Kd.R_reads' HO13.out).2.2 | (with_reducible refine Kd.C_alloc ?_ _) | (with_reducible refine Kd.C_drewN ?_ _) | (with_reducible refine Kd.C_drew ?_)))
                        (case aB => exact (by repeat (first | (with_reducible first | exact HB.out | apply lA | apply lN | apply lD | refine below_set ?_ GE10.out) | exact HB.out)))
                        (case aF => exact (fun k_ hk => ⟨Kd.fresh' (rL (by (with_reducible repeat (first | apply rA | apply rN | apply rD)); exact HO_5.out)) k_ hk, Kd.fresh' (rL (by (with_reducible repeat (first | apply rA | apply rN | apply rD)); exact HO19.out)) k_ hk, Kd.fresh' (rL (by (with_reducible repeat (first | apply rA | apply rN | apply rD)); exact HO13.out)) k_ hk⟩))
                        (case aO => exact (by (with_reducible repeat (first | apply rA | apply rN | apply rD)); exact rM HO_4.out (fun _ hk => ⟨hk.1.1, ⟨hk.1.2, hk.2⟩⟩)))
                        (case aS => exact (below_size (by repeat (first | (with_reducible first | exact HB.out | apply lA | apply lN | apply lD | refine below_set ?_ GE10.out) | exact HB.out))))
                        (case aL => have := LMc9.out; omega)
                        intro v15 w93 ho hb hg hat
                        rw [← Ny14.out] at ho
                        have n0_ := Am (Kd.R_after (ok := (fun k_ => some k_ ≠ (v18 : Value).ownBlock ∧ some k_ ≠ (.slice Ao94 y11.length co94 : Value).ownBlock)) (by (with_reducible repeat (first | apply rA | apply rN | apply rD)); exact rM HO_5.out (fun _ hk => ⟨⟨hk.1.2, hk.2⟩, hk.1.1⟩)) hg hat)
                        have n1_ := Am (blk_grown (g := gb10) (o := .cells #[.int .u32 ((rd_T24 l0 xb).f0), .int .u32 ((rd_T24 l0 xb).f1)] 24 (0, 0)) (by (with_reducible repeat (first | refine blk_drewN ?_ _ | refine blk_drew ?_ | refine blk_alloc ?_ _)); exact BK10.out) hg (Kd.R_ne HO_4.out BK10.out (by decide)))
                        have n2_ := Am (Kd.R_after (ok := (fun k_ => some k_ ≠ (.slice Ao86 x5_1.length co86 : Value).ownBlock ∧ some k_ ≠ (.slice Ao94 y11.length co94 : Value).ownBlock)) (by (with_reducible repeat (first | apply rA | apply rN | apply rD)); exact rM HO19.out (fun _ hk => ⟨⟨hk.1.2, hk.2⟩, hk.1.1.2⟩)) hg hat)
                        have n3_ := Am (Kd.R_after (ok := (fun k_ => some k_ ≠ (.slice Ao86 x5_1.length co86 : Value).ownBlock ∧ some k_ ≠ (v18 : Value).ownBlock)) (by (with_reducible repeat (first | apply rA | apply rN | apply rD)); exact rM HO13.out (fun _ hk => ⟨⟨hk.1.2, hk.2⟩, hk.1.1.2⟩)) hg hat)
                        have n4_ := Am (hb)
                        have n5_ := Am (ho)
                        clear HO_5
                        clear BK10
                        clear HO19
                        clear HO13
                        clear HB
                        clear HO_4
                        have HO_5 := n0_
                        have BK10 := n1_
                        have HO19 := n2_
                        have HO13 := n3_
                        have HB := n4_
                        have HO16 := n5_
                        clear n0_ n1_ n2_ n3_ n4_ n5_
                        clear ho hb hg hat
                        refine hK.out _ _ ⟨(blk_cell BK10.out 0).trans rfl, (blk_cell BK10.out 1).trans rfl⟩ (fun hHeld => ?_)
                        clear hK K
                        refine norm_ (a' := ?_) ?_ ?_
                        rotate_left
                        · show Act.put _ (some 34) _ = _
                          simp only [Act.put, List.setIfInBounds_toArray, List.set_cons_zero, List.set_cons_succ, i64_w, i32_w, IntKind.wrap_u32]
                          rfl
                        exact norm_ (by simp only [putAll, Act.put, List.setIfInBounds_toArray, List.set_cons_zero, List.set_cons_succ]) (hCont (.slice Ao94 y11.length co94, v15, v18) _ ⟨hHeld, (by (with_reducible repeat (first | apply rA | apply rN | apply rD)); exact rM HO13.out (fun _ hk => ⟨hk.2, ⟨hk.1.2, hk.1.1⟩⟩)), (by (with_reducible repeat (first | apply rA | apply rN | apply rD)); exact rM HO16.out (fun _ hk => ⟨hk.2.2, ⟨hk.2.1, hk.1⟩⟩)), (by (with_reducible repeat (first | apply rA | apply rN | apply rD)); exact rM HO19.out (fun _ hk => ⟨hk.1.2, ⟨hk.2, hk.1.1⟩⟩)), (by (with_reducible repeat (first | apply rA | apply rN | apply rD)); exact rM HO_5.out (fun _ hk => ⟨hk.1.2, ⟨hk.2, hk.1.1⟩⟩)), (by (with_reducible repeat (first | refine blk_drewN ?_ _ | refine blk_drew ?_ | refine blk_alloc ?_ _)); exact BK10.out), (by repeat (first | (with_reducible first | exact HB.out | apply lA | apply lN | apply lD | refine below_set ?_ GE10.out) | exact HB.out))⟩)
                    rintro ⟨v12, v15, v18⟩ w95 ⟨hS_, h0_, h1_, h2_, h3_, h4_, h5_⟩
                    have n0_ : Aside0 (Kd.R (Kd.int .u32) 22 w95 w.heap.size (fun k_ => some k_ ≠ (v15 : Value).ownBlock ∧ some k_ ≠ (v18 : Value).ownBlock ∧ some k_ ≠ (.slice Ao86 x5_1.length co86 : Value).ownBlock) v12 y11) := ⟨h0_⟩
                    have n1_ : Aside0 (Kd.R (Kd.int .u32) 22 w95 w.heap.size (fun k_ => some k_ ≠ (v12 : Value).ownBlock ∧ some k_ ≠ (v18 : Value).ownBlock ∧ some k_ ≠ (.slice Ao86 x5_1.length co86 : Value).ownBlock) v15 y14) := ⟨h1_⟩
                    have n2_ : Aside0 (Kd.R (Kd.int .u32) 22 w95 w.heap.size (fun k_ => some k_ ≠ (v12 : Value).ownBlock ∧ some k_ ≠ (v15 : Value).ownBlock ∧ some k_ ≠ (.slice Ao86 x5_1.length co86 : Value).ownBlock) v18 y17) := ⟨h2_⟩
                    have n3_ : Aside0 (Kd.R (Kd.int .u32) 22 w95 w.heap.size (fun k_ => some k_ ≠ (v12 : Value).ownBlock ∧ some k_ ≠ (v15 : Value).ownBlock ∧ some k_ ≠ (v18 : Value).ownBlock) (.slice Ao86 x5_1.length co86) x5_1) := ⟨h3_⟩
                    have n4_ : Aside0 (w95.heap[gb10]? = some (.cells #[.int .u32 ((rd_T24 l0 xb).f0), .int .u32 ((rd_T24 l0 xb).f1)] 24 (0, 0))) := ⟨h4_⟩
                    have n5_ : Aside0 (Below w.heap.size w w95) := ⟨h5_⟩
                    clear HO_4
                    clear HO_5
                    clear BK10
                    clear HB
                    clear h0_ h1_ h2_ h3_ h4_ h5_
                    have HO13 := n0_
                    have HO16 := n1_
                    have HO19 := n2_
                    have HO_5 := n3_
                    have BK10 := n4_
                    have HB := n5_
                    clear n0_ n1_ n2_ n3_ n4_ n5_
                    have hHeld : w95.cell? ⟨gb10, 0, none⟩ = some (.int .u32 ((rd_T24 l0 xb).f0)) ∧ w95.cell? ⟨gb10, 1, none⟩ = some (.int .u32 ((rd_T24 l0 xb).f1)) := hS_
                    obtain ⟨Ao97, co97, eo97⟩ := Kd.R_slice HO19.out
                    (first | subst eo97 | (injection eo97 with f1_ f2_ f3_; have f4_ := f1_.symm; have f5_ := f3_.symm; clear f1_ f2_ f3_; subst f4_; subst f5_))
                    refine norm_ (a' := ?_) ?_ ?_
                    rotate_left
                    · simp only [putAll, Act.put, List.setIfInBounds_toArray, List.set_cons_zero, List.set_cons_succ]
                      rfl
                    refine one_ (i := 11) (N := some 40) #[true, true, true, true, true, true, true, true, true, true, true, true, false, false] rfl rfl (one_of HT_.out (by kernel_rfl)) (by decide) (fun K hK => ?_)
                    refine Kd.R_append_rows_step (Kd.int .u32) (w0 := w) w.heap.size (by rfl) (.tmp 35) (.tmp 39) 31 22 (.int .u32 0) 4 rfl Try.underlying31 info22 rfl (by decide) (by omega) (.slice Ao86 x5_1.length co86) x5_1 y17 _ _ _ (fun k_ => some k_ ≠ (v12 : Value).ownBlock ∧ some k_ ≠ (v15 : Value).ownBlock ∧ some k_ ≠ (.slice Ao97 y17.length co97 : Value).ownBlock) (fun _ => False) rfl rfl ?aO ?aR (fun _ _ h => h) (fun _ h => h.elim) ?aF ?aB ?aS ?aL ?_
                    (case aR => repeat (first | exact (Kd.R_reads' HO19.out).2.2 | (with_reducible refine Kd.C_alloc ?_ _) | (with_reducible refine Kd.C_drewN ?_ _) | (with_reducible refine Kd.C_drew ?_)))
                    (case aB => exact (by repeat (first | (with_reducible first | exact HB.out | apply lA | apply lN | apply lD | refine below_set ?_ GE10.out) | exact HB.out)))
                    (case aF => exact (fun k_ hk => ⟨Kd.fresh' (rL (by (with_reducible repeat (first | apply rA | apply rN | apply rD)); exact HO13.out)) k_ hk, Kd.fresh' (rL (by (with_reducible repeat (first | apply rA | apply rN | apply rD)); exact HO16.out)) k_ hk, Kd.fresh' (rL (by (with_reducible repeat (first | apply rA | apply rN | apply rD)); exact HO19.out)) k_ hk⟩))
                    (case aO => exact (by (with_reducible repeat (first | apply rA | apply rN | apply rD)); exact HO_5.out))
                    (case aS => exact (below_size (by repeat (first | (with_reducible first | exact HB.out | apply lA | apply lN | apply lD | refine below_set ?_ GE10.out) | exact HB.out))))
                    (case aL => have := LMc10.out; omega)
                    intro v21 w96 ho hb hg hat
                    rw [← Ny20.out] at ho
                    have n0_ := Am (blk_grown (g := gb10) (o := .cells #[.int .u32 ((rd_T24 l0 xb).f0), .int .u32 ((rd_T24 l0 xb).f1)] 24 (0, 0)) (by (with_reducible repeat (first | refine blk_drewN ?_ _ | refine blk_drew ?_ | refine blk_alloc ?_ _)); exact BK10.out) hg (Kd.R_ne HO_5.out BK10.out (by decide)))
                    have n1_ := Am (Kd.R_after (ok := (fun k_ => some k_ ≠ (v15 : Value).ownBlock ∧ some k_ ≠ (.slice Ao97 y17.length co97 : Value).ownBlock)) (by (with_reducible repeat (first | apply rA | apply rN | apply rD)); exact rM HO13.out (fun _ hk => ⟨⟨hk.1, hk.2.1⟩, hk.2.2⟩)) hg hat)
                    have n2_ := Am (Kd.R_after (ok := (fun k_ => some k_ ≠ (v12 : Value).ownBlock ∧ some k_ ≠ (.slice Ao97 y17.length co97 : Value).ownBlock)) (by (with_reducible repeat (first | apply rA | apply rN | apply rD)); exact rM HO16.out (fun _ hk => ⟨⟨hk.1, hk.2.1⟩, hk.2.2⟩)) hg hat)
                    have n3_ := Am (Kd.R_after (ok := (fun k_ => some k_ ≠ (v12 : Value).ownBlock ∧ some k_ ≠ (v15 : Value).ownBlock)) (by (with_reducible repeat (first | apply rA | apply rN | apply rD)); exact rM HO19.out (fun _ hk => ⟨⟨hk.1, hk.2.1⟩, hk.2.2⟩)) hg hat)
                    have n4_ := Am (hb)
                    have n5_ := Am (ho)
                    clear BK10
                    clear HO13
                    clear HO16
                    clear HO19
                    clear HB
                    clear HO_5
                    have BK10 := n0_
                    have HO13 := n1_
                    have HO16 := n2_
                    have HO19 := n3_
                    have HB := n4_
                    have HO22 := n5_
                    clear n0_ n1_ n2_ n3_ n4_ n5_
                    clear ho hb hg hat
                    refine hK.out _ _ ⟨(blk_cell BK10.out 0).trans rfl, (blk_cell BK10.out 1).trans rfl⟩ (fun hHeld => ?_)
                    clear hK K
                    refine norm_ (a' := ?_) ?_ ?_
                    rotate_left
                    · show Act.put _ (some 40) _ = _
                      simp only [Act.put, List.setIfInBounds_toArray, List.set_cons_zero, List.set_cons_succ, i64_w, i32_w, IntKind.wrap_u32]
                      rfl
                    refine pure_ (i := 12) (N := some 4) (v := ?_) (a' := ?_) #[true, true, true, true, true, true, true, true, true, true, true, true, true, false] rfl rfl (any_of HT_.out (by kernel_rfl)) (fun _ _ _ h => h) (Or.inl ⟨by rfl, ?_⟩) ?_ ?_
                    rotate_left
                    · intro w'
                      go_simp
                      with_reducible rfl
                    rotate_left
                    · simp only [Act.put, List.setIfInBounds_toArray, List.set_cons_zero, List.set_cons_succ, i64_w, i32_w, IntKind.wrap_u32]
                      rfl
                    refine pure_ (i := 13) (N := some 5) (v := ?_) (a' := ?_) #[true, true, true, true, true, true, true, true, true, true, true, true, true, true] rfl rfl (any_of HT_.out (by kernel_rfl)) (fun _ _ _ h => h) (Or.inl ⟨by rfl, ?_⟩) ?_ ?_
                    rotate_left
                    · intro w'
                      go_simp
                      with_reducible rfl
                    rotate_left
                    · simp only [Act.put, List.setIfInBounds_toArray, List.set_cons_zero, List.set_cons_succ, i64_w, i32_w, IntKind.wrap_u32]
                      rfl
                    refine done_ (done_of HT_.out (by kernel_rfl)) ?_
                    have hcz98_0 : w96.cell? ⟨gb10, 0, none⟩ = some (.int .u32 ((rd_T24 l0 xb).f0)) := (blk_cell BK10.out 0).trans rfl
                    have hcz98_1 : w96.cell? ⟨gb10, 1, none⟩ = some (.int .u32 ((rd_T24 l0 xb).f1)) := (blk_cell BK10.out 1).trans rfl
                    have hfz98_0 := blk_frozen BK10.out 0
                    have hfz98_1 := blk_frozen BK10.out 1
                    try go_wp2
                    go_roundg k1
                    case measure => have := HK1.out; omega
                    case rel => exact ⟨(y14), (y20), (wrap64 (xb + 1)), (by first | rfl | (simp; done) | (simp [*]; done)), H', ⟨by have := HK1.out; omega⟩, ⟨by (with_reducible repeat (first | apply rA | apply rN | apply rD)); exact rM HO16.out (fun _ hk => hk.2)⟩, ⟨by (with_reducible repeat (first | apply rA | apply rN | apply rD)); exact rM HO22.out (fun _ hk => hk.2.1)⟩, ⟨by repeat (first | (with_reducible first | exact HB.out | apply lA | apply lN | apply lD | refine below_set ?_ GE10.out) | exact HB.out)⟩⟩
              · rw [if_neg c10] at H
                exact absurd H (by simp)
            · rw [if_neg c9] at H
              exact absurd H (by simp)
          · rw [if_neg c8] at H
            exact absurd H (by simp)
        · rw [if_neg c7] at H
          exact absurd H (by simp)
      · rw [if_neg c6] at H
        have c6b0 : decide (xb < (l0.length : Int)) = false := decide_eq_false c6
        clear c6
        replace H := Option.bind_eq_some_iff.mp H
        obtain ⟨t7, A990, H⟩ := H
        replace H : ((Sort_u32.f k1 x5_1).bind fun t8 => (some (t7, t8))) = some (r1, r2) := H
        have A99 := Am A990
        clear A990
        replace H := Option.bind_eq_some_iff.mp H
        obtain ⟨t8, A1000, H⟩ := H
        replace H : (some (t7, t8)) = some (r1, r2) := H
        have A100 := Am A1000
        clear A1000
        simp only [Option.some.injEq, Prod.mk.injEq] at H
        obtain ⟨rfl, rfl⟩ := H
        obtain ⟨Ao101, co101, eo101⟩ := Kd.R_slice HO_4.out
        subst eo101
        obtain ⟨cx, HCX0, HAL0⟩ := Option.bind_eq_some_iff.mp (show (Compact_u32.f t7).bind (fun cx => cellsAll k l0 t8 cx [] []) = some r from H2.out)
        have HCX := Am HCX0
        have HAL := Am HAL0
        clear HCX0 HAL0 H2
        go_wp2_with (first | ((with_reducible refine gate_callee (f := 22) rfl ?_); refine goesL_ (some 63) rfl rfl Try.func22 (by kernel_rfl) rfl #[.slice Ao101 x4_1.length co101] rfl (by (try simp only [List.map_toArray, List.map_cons, List.map_nil]); first | done | rfl | (simp only [List.length_drop, List.length_take]; rfl)) ?_; (with_reducible refine (Sort_u32.calls k1 (fun k_ => some k_ = (.slice Ao101 x4_1.length co101 : Value).ownBlock) (.slice Ao101 x4_1.length co101) x4_1 t7 w _ ?side1 ?side2 A99.out).mono ?_); (case side1 => repeat (first | (with_reducible first | exact HB.out | apply lA | apply lN | apply lD) | exact HB.out)); (case side2 => exact Kd.R_tight rfl HO_4.out); rintro e w102 ⟨rfl, hy0, hb, hkp⟩; refine ⟨_, rfl, ?_⟩; have n0_ := Am (Kd.R_reok rfl hy0 (fun k_ e_ => HO_4.out.1 k_ e_)); have n1_ := Am (rM (ok' := fun k_ => some k_ ≠ (.slice Ao101 x4_1.length co101 : Value).ownBlock) (Kd.R_keptB (HO_5.out) hkp (fun k_ hk_ hs_ => (hk_) hs_)) (fun k_ hk_ => hk_.1)); have n2_ := Am (hb); clear HO_4; clear HO_5; clear HB; have HO_4 := n0_; have HO_5 := n1_; have HB := n2_; clear n0_ n1_ n2_; (try clear hb); (try clear hkp); (try clear hy0); obtain ⟨Ao103, co103, eo103⟩ := Kd.R_slice HO_5.out; subst eo103) | ((with_reducible refine gate_callee (f := 22) rfl ?_); refine goesL_ (some 65) rfl rfl Try.func22 (by kernel_rfl) rfl #[.slice Ao103 x5_1.length co103] rfl (by (try simp only [List.map_toArray, List.map_cons, List.map_nil]); first | done | rfl | (simp only [List.length_drop, List.length_take]; rfl)) ?_; (with_reducible refine (Sort_u32.calls k1 (fun k_ => some k_ = (.slice Ao103 x5_1.length co103 : Value).ownBlock) (.slice Ao103 x5_1.length co103) x5_1 t8 w _ ?side1 ?side2 A100.out).mono ?_); (case side1 => repeat (first | (with_reducible first | exact HB.out | apply lA | apply lN | apply lD) | exact HB.out)); (case side2 => exact Kd.R_tight rfl HO_5.out); rintro e w104 ⟨rfl, hy0, hb, hkp⟩; refine ⟨_, rfl, ?_⟩; have n0_ := Am (rM (ok' := fun k_ => some k_ ≠ (.slice Ao103 x5_1.length co103 : Value).ownBlock) (Kd.R_keptB (HO_4.out) hkp (fun k_ hk_ hs_ => (hk_) hs_)) (fun k_ hk_ => hk_.1)); have n1_ := Am (Kd.R_reok rfl hy0 (fun k_ e_ => HO_5.out.1 k_ e_)); have n2_ := Am (hb); clear HO_4; clear HO_5; clear HB; have HO_4 := n0_; have HO_5 := n1_; have HB := n2_; clear n0_ n1_ n2_; (try clear hb); (try clear hkp); (try clear hy0)) | (go_at_call 23; refine (Compact_u32.calls (fun k_ => some k_ = (.slice Ao101 x4_1.length co101 : Value).ownBlock) (.slice Ao101 x4_1.length co101) t7 cx w _ ?sa ?sb HCX.out).mono ?_; (case sa => exact (by repeat (first | (with_reducible first | exact HB.out | apply lA | apply lN | apply lD) | exact HB.out))); (case sb => exact Kd.R_tight rfl (by (with_reducible repeat (first | apply rA | apply rN | apply rD)); exact HO_4.out)); rintro e w106 ⟨v7, rfl, hy0, hb, hkp⟩; have n0_ := Am ((SetAt.made w104).keptP hkp (fun he => (SetAt.made w104).ne (by (with_reducible repeat (first | apply rA | apply rN | apply rD)); exact HO_4.out) he)); have n1_ := Am (rM (ok' := fun _ => True) (Kd.R_keptB (ok := fun k_ => some k_ ≠ (.slice Ao101 x4_1.length co101 : Value).ownBlock) (by (with_reducible repeat (first | apply rA | apply rN | apply rD)); exact HO_5.out) hkp (fun k_ hk_ hs_ => (hk_) hs_)) (fun _ _ => trivial)); have n2_ := Am (rM (ok' := fun _ => True) hy0 (fun _ _ => trivial)); have n3_ := Am hb; have HGB := Am (below_size HB.out); clear HO_4; clear HO_5; clear HB; have HS := n0_; have HY := n1_; have HX := n2_; have HB := n3_; clear n0_ n1_ n2_ n3_; (try clear hb); (try clear hkp); (try clear hy0); obtain ⟨A7, c7, e7⟩ := Kd.R_slice HX.out; subst e7))
        go_loopw [11, 70] (fun v11 v70 wr => ∃ (xi : Int) (seen : List (List UInt8)) (out : List Int), v70 = .int .i64 xi ∧ Aside0 (0 ≤ xi ∧ xi ≤ (cx.length : Int)) ∧ Aside0 (cellsAll k l0 t8 (cx.drop xi.toNat) seen out = some r) ∧ Aside0 (seen.length = out.length) ∧ Aside0 (SetAt wr w104.heap.size seen) ∧ Aside0 (Kd.R (Kd.int .u32) 22 wr w.heap.size (fun _ => True) v11 out) ∧ Aside0 (Kd.R (Kd.int .u32) 22 wr w.heap.size (fun k_ => True ∧ some k_ ≠ (v11 : Value).ownBlock) (.slice A7 cx.length c7) cx) ∧ Aside0 (Kd.R (Kd.int .u32) 22 wr w.heap.size (fun k_ => True ∧ some k_ ≠ (v11 : Value).ownBlock) (.slice Ao103 x5_1.length co103) t8) ∧ Aside0 (Below w.heap.size w wr)) (fun v11 v70 _ => cx.length - (intOf v70).toNat)
        case atStart => exact ⟨0, [], [], rfl, ⟨by omega⟩, ⟨HAL.out⟩, ⟨rfl⟩, ⟨HS.out⟩, ⟨Kd.R_nil _ _ _ _ _⟩, ⟨by (with_reducible repeat (first | apply rA | apply rN | apply rD)); exact rM HX.out (fun _ _ => ⟨trivial, by simp [Value.ownBlock]⟩)⟩, ⟨by (with_reducible repeat (first | apply rA | apply rN | apply rD)); exact rM HY.out (fun _ _ => ⟨trivial, by simp [Value.ownBlock]⟩)⟩, ⟨(by repeat (first | (with_reducible first | exact HB.out | apply lA | apply lN | apply lD) | exact HB.out))⟩⟩
        case round =>
          clear HAL HCX HX HY HS HB
          obtain ⟨xi, seen, out, rfl, HI, HAL, HLN, HS, HO, HX, HY, HB⟩ := hrel
          by_cases ci : xi < (cx.length : Int)
          · have cib0 : decide (xi < (cx.length : Int)) = true := decide_eq_true ci
            have hlt : xi.toNat < cx.length := by have := HI.out; omega
            have hAL := HAL.out
            rw [List.drop_eq_getElem_cons hlt] at hAL
            have hrd := rdN cx xi.toNat hlt
            rw [show ((xi.toNat : Nat) : Int) = xi by have := HI.out; omega] at hrd
            have HW := Am (show wrap64 (xi + 1) = xi + 1 by have := HI.out; have := (Kd.R_reads' HX.out).2.2.2.1; unfold wrap64; omega)
            have HT := Am (show (wrap64 (xi + 1)).toNat = xi.toNat + 1 by have := HI.out; rw [HW.out]; omega)
            generalize cx[xi.toNat] = x at hAL hrd
            simp only [cellsAll] at hAL
            obtain ⟨yc, hcl, hAL⟩ := Option.bind_eq_some_iff.mp hAL
            obtain ⟨yy, hcp, hAL⟩ := Option.bind_eq_some_iff.mp hAL
            obtain ⟨t, hrow, hAL⟩ := Option.bind_eq_some_iff.mp hAL
            have HCL := Am hcl
            have HCP := Am hcp
            have HRW := Am hrow
            clear HAL hcl hcp hrow
            have HAL := Am hAL
            clear hAL
            have p1 : 0 ≤ xi := HI.out.1
            obtain ⟨ad1, e1, hx1_0⟩ := Kd.at_int (Kd.R_reads' HX.out).2.2 xi p1 ci
            cases e1
            rw [hrd] at hx1_0
            clear hrd hlt
            have HC := Am ci
            replace p1 := eq_true p1
            replace ci := eq_true ci
            go_wp2_with (first | (go_at_call 24; refine (Clone_u32.calls (fun k_ => True ∧ some k_ ≠ (u11 : Value).ownBlock) (.slice Ao103 x5_1.length co103) t8 yc w _ (by (with_reducible repeat (first | apply rA | apply rN | apply rD)); exact HY.out) HCL.out).mono ?_; rintro e w2 ⟨v8, rfl, hyc, hb⟩; have n0_ := Am (Kd.R_elder' (by (with_reducible repeat (first | apply rA | apply rN | apply rD)); exact HX.out) (Kd.R_base hyc) hb); have n1_ := Am (Kd.R_elder' (by (with_reducible repeat (first | apply rA | apply rN | apply rD)); exact HY.out) (Kd.R_base hyc) hb); have n2_ := Am (Kd.R_elder' (by (with_reducible repeat (first | apply rA | apply rN | apply rD)); exact HO.out) (Kd.R_base hyc) hb); have n3_ := Am (HS.out.below hb); have n5_ := Am (Kd.R_lower hyc (below_size (by repeat (first | (with_reducible first | exact HB.out | apply lA | apply lN | apply lD) | exact HB.out)))); have n4_ := Am (below_step (by repeat (first | (with_reducible first | exact HB.out | apply lA | apply lN | apply lD) | exact HB.out)) hb); clear HX; clear HY; clear HO; clear HS; clear HB; have HX := n0_; have HY := n1_; have HO := n2_; have HS := n3_; have HB := n4_; have HYC := n5_; clear n0_ n1_ n2_ n3_ n4_ n5_; (try clear hb); (try clear hyc)) | (go_at_call 23; refine (Compact_u32.calls (fun k_ => some k_ = (v8 : Value).ownBlock) v8 yc yy w _ ?sa ?sb HCP.out).mono ?_; (case sa => exact (by repeat (first | (with_reducible first | exact HB.out | apply lA | apply lN | apply lD) | exact HB.out))); (case sb => exact Kd.R_tight rfl (by (with_reducible repeat (first | apply rA | apply rN | apply rD)); exact HYC.out)); rintro e w3 ⟨v9, rfl, hyy, hb, hkp⟩; have n5_ := Am (R_fresh (vo := u11) (xo := out) (u := v8) hyy (by (with_reducible repeat (first | apply rA | apply rN | apply rD)); exact HO.out)); have n0_ := Am (rM (ok' := fun k_ => True ∧ some k_ ≠ (u11 : Value).ownBlock) (Kd.R_keptB (ok := fun k_ => (True ∧ some k_ ≠ (u11 : Value).ownBlock) ∧ some k_ ≠ (v8 : Value).ownBlock) (by (with_reducible repeat (first | apply rA | apply rN | apply rD)); exact HX.out) hkp (fun k_ hk_ hs_ => hk_.2 hs_)) (fun _ hk_ => hk_.1.1)); have n1_ := Am (rM (ok' := fun k_ => True ∧ some k_ ≠ (u11 : Value).ownBlock) (Kd.R_keptB (ok := fun k_ => (True ∧ some k_ ≠ (u11 : Value).ownBlock) ∧ some k_ ≠ (v8 : Value).ownBlock) (by (with_reducible repeat (first | apply rA | apply rN | apply rD)); exact HY.out) hkp (fun k_ hk_ hs_ => hk_.2 hs_)) (fun _ hk_ => hk_.1.1)); have n2_ := Am (rM (ok' := fun _ => True) (Kd.R_keptB (ok := fun k_ => True ∧ some k_ ≠ (v8 : Value).ownBlock) (by (with_reducible repeat (first | apply rA | apply rN | apply rD)); exact HO.out) hkp (fun k_ hk_ hs_ => hk_.2 hs_)) (fun _ _ => trivial)); have n3_ := Am (HS.out.keptP hkp (fun he_ => HS.out.ne HYC.out he_)); have n4_ := Am hb; clear HX; clear HY; clear HO; clear HS; clear HB; clear HYC; have HX := n0_; have HY := n1_; have HO := n2_; have HS := n3_; have HB := n4_; have HYY := n5_; clear n0_ n1_ n2_ n3_ n4_ n5_; (try clear hb); (try clear hkp); (try clear hyy); obtain ⟨A9, c9, e9⟩ := Kd.R_slice HYY.out; subst e9))
            go_loopw [11, 78] (fun v11 v78 wr => ∃ (xj : Int) (seen2 : List (List UInt8)) (out2 : List Int), v78 = .int .i64 xj ∧ Aside0 (0 ≤ xj ∧ xj ≤ (yy.length : Int)) ∧ Aside0 (cellsRow k l0 x (yy.drop xj.toNat) seen2 out2 = some t) ∧ Aside0 (seen2.length = out2.length) ∧ Aside0 (SetAt wr w104.heap.size seen2) ∧ Aside0 (Kd.R (Kd.int .u32) 22 wr w.heap.size (fun _ => True) v11 out2) ∧ Aside0 (Kd.R (Kd.int .u32) 22 wr w.heap.size (fun k_ => True ∧ some k_ ≠ (v11 : Value).ownBlock) (.slice (some ad1) cx.length c7) cx) ∧ Aside0 (Kd.R (Kd.int .u32) 22 wr w.heap.size (fun k_ => True ∧ some k_ ≠ (v11 : Value).ownBlock) (.slice Ao103 x5_1.length co103) t8) ∧ Aside0 (Kd.R (Kd.int .u32) 22 wr w.heap.size (fun k_ => True ∧ some k_ ≠ (v11 : Value).ownBlock) (.slice A9 yy.length c9) yy) ∧ Aside0 (Below w.heap.size w wr)) (fun v11 v78 _ => yy.length - (intOf v78).toNat)
            case atStart => exact ⟨0, seen, out, rfl, ⟨by omega⟩, ⟨HRW.out⟩, ⟨HLN.out⟩, ⟨HS.out⟩, ⟨by (with_reducible repeat (first | apply rA | apply rN | apply rD)); exact HO.out⟩, ⟨by (with_reducible repeat (first | apply rA | apply rN | apply rD)); exact HX.out⟩, ⟨by (with_reducible repeat (first | apply rA | apply rN | apply rD)); exact HY.out⟩, ⟨by (with_reducible repeat (first | apply rA | apply rN | apply rD)); exact HYY.out⟩, ⟨(by repeat (first | (with_reducible first | exact HB.out | apply lA | apply lN | apply lD) | exact HB.out))⟩⟩
            case round =>
              clear HRW HLN HX HY HS HO HB HYY hx1_0
              obtain ⟨xj, seen2, out2, rfl, HJ, HRW, HLN, HS, HO, HX, HY, HYY, HB⟩ := hrel
              by_cases cj : xj < (yy.length : Int)
              · have cjb0 : decide (xj < (yy.length : Int)) = true := decide_eq_true cj
                have hlj : xj.toNat < yy.length := by have := HJ.out; omega
                have hRW := HRW.out
                rw [List.drop_eq_getElem_cons hlj] at hRW
                have hrd := rdN yy xj.toNat hlj
                rw [show ((xj.toNat : Nat) : Int) = xj by have := HJ.out; omega] at hrd
                have HW2 := Am (show wrap64 (xj + 1) = xj + 1 by have := HJ.out; have := (Kd.R_reads' HYY.out).2.2.2.1; unfold wrap64; omega)
                have HT2 := Am (show (wrap64 (xj + 1)).toNat = xj.toNat + 1 by have := HJ.out; rw [HW2.out]; omega)
                generalize yy[xj.toNat] = y at hRW hrd
                simp only [cellsRow] at hRW
                obtain ⟨kd, hkd, hRW⟩ := Option.bind_eq_some_iff.mp hRW
                have HKD := Am hkd
                clear hkd HRW
                by_cases hks : kd.size ≤ 35184372088832
                · rw [if_pos hks] at hRW
                  have HKS := Am hks
                  clear hks
                  have p2 : 0 ≤ xj := HJ.out.1
                  obtain ⟨ad2, e2, hx2_0⟩ := Kd.at_int (Kd.R_reads' HYY.out).2.2 xj p2 cj
                  cases e2
                  rw [hrd] at hx2_0
                  clear hrd hlj
                  have HCJ := Am cj
                  replace p2 := eq_true p2
                  replace cj := eq_true cj
                  cases hsn : decide (kd.data.toList ∈ seen2) with
                  | true =>
                    rw [hsn, if_pos rfl] at hRW
                    have HRW := Am hRW
                    clear hRW
                    go_wp2_with (first | (go_at_call 25; refine (q3z.calls k A0 c0 l0 _ kd _ (Kd.C_below HR0.out (by repeat (first | (with_reducible first | exact HB.out | apply lA | apply lN | apply lD) | exact HB.out))) HC0.out HKD.out).mono ?_; rintro e w5 ⟨rfl, hb⟩; have n0_ := Am (Kd.R_below (by (with_reducible repeat (first | apply rA | apply rN | apply rD)); exact HX.out) hb); have n1_ := Am (Kd.R_below (by (with_reducible repeat (first | apply rA | apply rN | apply rD)); exact HY.out) hb); have n2_ := Am (Kd.R_below (by (with_reducible repeat (first | apply rA | apply rN | apply rD)); exact HO.out) hb); have n3_ := Am (HS.out.below hb); have n4_ := Am (below_step (by repeat (first | (with_reducible first | exact HB.out | apply lA | apply lN | apply lD) | exact HB.out)) hb); have n5_ := Am (Kd.R_below (by (with_reducible repeat (first | apply rA | apply rN | apply rD)); exact HYY.out) hb); clear HX; clear HY; clear HO; clear HS; clear HB; clear HYY; have HX := n0_; have HY := n1_; have HO := n2_; have HS := n3_; have HB := n4_; have HYY := n5_; clear n0_ n1_ n2_ n3_ n4_ n5_; (try clear hb)) | (at_lookup; refine wpList_lookup_set _ rfl _ _ rfl w104.heap.size seen2 rfl HS.out kd rfl (by have := HKS.out; unfold maxLen; omega) ?_))
                    go_roundw
                    case rel => exact ⟨wrap64 (xj + 1), seen2, out2, (by first | rfl | (simp; done) | (simp [*]; done)), ⟨by rw [HW2.out]; have := HJ.out; have := HCJ.out; omega⟩, ⟨by rw [HT2.out]; exact HRW.out⟩, ⟨HLN.out⟩, ⟨HS.out⟩, ⟨by (with_reducible repeat (first | apply rA | apply rN | apply rD)); exact HO.out⟩, ⟨by (with_reducible repeat (first | apply rA | apply rN | apply rD)); exact HX.out⟩, ⟨by (with_reducible repeat (first | apply rA | apply rN | apply rD)); exact HY.out⟩, ⟨by (with_reducible repeat (first | apply rA | apply rN | apply rD)); exact HYY.out⟩, ⟨(by repeat (first | (with_reducible first | exact HB.out | apply lA | apply lN | apply lD) | exact HB.out))⟩⟩
                    case measure => simp only [intOf, HT2.out]; have := HJ.out; have := HCJ.out; omega
                  | false =>
                    rw [hsn, if_neg (by decide)] at hRW
                    by_cases hol : out2.length < 35184372088832
                    · rw [if_pos hol] at hRW
                      have HOL := Am hol
                      have HRW := Am hRW
                      clear hRW hol
                      go_wp2_with (first | (go_at_call 25; refine (q3z.calls k A0 c0 l0 _ kd _ (Kd.C_below HR0.out (by repeat (first | (with_reducible first | exact HB.out | apply lA | apply lN | apply lD) | exact HB.out))) HC0.out HKD.out).mono ?_; rintro e w5 ⟨rfl, hb⟩; have n0_ := Am (Kd.R_below (by (with_reducible repeat (first | apply rA | apply rN | apply rD)); exact HX.out) hb); have n1_ := Am (Kd.R_below (by (with_reducible repeat (first | apply rA | apply rN | apply rD)); exact HY.out) hb); have n2_ := Am (Kd.R_below (by (with_reducible repeat (first | apply rA | apply rN | apply rD)); exact HO.out) hb); have n3_ := Am (HS.out.below hb); have n4_ := Am (below_step (by repeat (first | (with_reducible first | exact HB.out | apply lA | apply lN | apply lD) | exact HB.out)) hb); have n5_ := Am (Kd.R_below (by (with_reducible repeat (first | apply rA | apply rN | apply rD)); exact HYY.out) hb); clear HX; clear HY; clear HO; clear HS; clear HB; clear HYY; have HX := n0_; have HY := n1_; have HO := n2_; have HS := n3_; have HB := n4_; have HYY := n5_; clear n0_ n1_ n2_ n3_ n4_ n5_; (try clear hb)) | (at_lookup; refine wpList_lookup_set _ rfl _ _ rfl w104.heap.size seen2 rfl HS.out kd rfl (by have := HKS.out; unfold maxLen; omega) ?_) | (at_mapUpdate; refine wpList_update_set _ rfl _ _ _ rfl w104.heap.size seen2 rfl HS.out (by have := HLN.out; have := HOL.out; unfold maxLen; omega) kd rfl (by have := HKS.out; unfold maxLen; omega) rfl ?_; intro w6 hs hg; have n0_ := Am (HS.out.row (by (with_reducible repeat (first | apply rA | apply rN | apply rD)); exact HX.out) hg); have n1_ := Am (HS.out.row (by (with_reducible repeat (first | apply rA | apply rN | apply rD)); exact HY.out) hg); have n2_ := Am (HS.out.row (by (with_reducible repeat (first | apply rA | apply rN | apply rD)); exact HO.out) hg); have n5_ := Am (HS.out.row (by (with_reducible repeat (first | apply rA | apply rN | apply rD)); exact HYY.out) hg); have n3_ := Am hs; have n4_ := Am (pw_below_grown (by repeat (first | (with_reducible first | exact HB.out | apply lA | apply lN | apply lD) | exact HB.out)) (some w104.heap.size) (below_size (by repeat (first | (with_reducible first | exact HB.out | apply lA | apply lN | apply lD) | exact HB.out))) hg (fun k_ hk_ => by cases hk_; exact HGB.out)); clear HX; clear HY; clear HO; clear HS; clear HB; clear HYY; have HX := n0_; have HY := n1_; have HO := n2_; have HS := n3_; have HB := n4_; have HYY := n5_; clear n0_ n1_ n2_ n3_ n4_ n5_; (try clear hs); (try clear hg)) | ((with_reducible refine gate_builtin (b := .append) (xs := #[.tmp 95, .tmp 97]) rfl ?_); at_builtin; refine Kd.R_append (Kd.int .u32) (w0 := w) w.heap.size rfl (.tmp 95) (.tmp 97) 31 22 (.int .u32 0) 4 rfl Try.underlying31 info22 rfl (by decide) (by omega) u11 out2 ((x * 65536 + y) % 4294967296) [.int .u32 ((x * 65536 + y) % 4294967296)] (fun _ => True) (fun _ => False) rfl (by first | (go_simp; done) | (go_simp; rfl)) ?aP (fun _ hk => hk.elim) ?aF ?aO ?aB ?aS ?aL ?_; (case aP => exact rfl); (case aB => exact (by repeat (first | (with_reducible first | exact HB.out | apply lA | apply lN | apply lD) | exact HB.out))); (case aF => exact (fun _ _ => trivial)); (case aO => exact (by (with_reducible repeat (first | apply rA | apply rN | apply rD)); exact HO.out)); (case aS => exact (below_size (by repeat (first | (with_reducible first | exact HB.out | apply lA | apply lN | apply lD) | exact HB.out)))); (case aL => have := HOL.out; omega); intro v12 w7 ho hb hg hat; have n0_ := Am (Kd.R_after (by (with_reducible repeat (first | apply rA | apply rN | apply rD)); exact HX.out) hg hat); have n1_ := Am (Kd.R_after (by (with_reducible repeat (first | apply rA | apply rN | apply rD)); exact HY.out) hg hat); have n2_ := Am ho; have n5_ := Am (Kd.R_after (by (with_reducible repeat (first | apply rA | apply rN | apply rD)); exact HYY.out) hg hat); have n3_ := Am (HS.out.kept hg (HS.out.ne (by (with_reducible repeat (first | apply rA | apply rN | apply rD)); exact HO.out))); have n4_ := Am hb; clear HX; clear HY; clear HO; clear HS; clear HB; clear HYY; have HX := n0_; have HY := n1_; have HO := n2_; have HS := n3_; have HB := n4_; have HYY := n5_; clear n0_ n1_ n2_ n3_ n4_ n5_; (try clear ho); (try clear hb); (try clear hg); (try clear hat)))
                      go_roundw
                      case rel => exact ⟨wrap64 (xj + 1), _, _, (by first | rfl | (simp; done) | (simp [*]; done)), ⟨by rw [HW2.out]; have := HJ.out; have := HCJ.out; omega⟩, ⟨by rw [HT2.out]; exact HRW.out⟩, ⟨by have := HLN.out; simp only [List.length_cons, List.length_append, List.length_nil]; omega⟩, ⟨HS.out⟩, ⟨by (with_reducible repeat (first | apply rA | apply rN | apply rD)); exact HO.out⟩, ⟨by (with_reducible repeat (first | apply rA | apply rN | apply rD)); exact HX.out⟩, ⟨by (with_reducible repeat (first | apply rA | apply rN | apply rD)); exact HY.out⟩, ⟨by (with_reducible repeat (first | apply rA | apply rN | apply rD)); exact HYY.out⟩, ⟨(by repeat (first | (with_reducible first | exact HB.out | apply lA | apply lN | apply lD) | exact HB.out))⟩⟩
                      case measure => simp only [intOf, HT2.out]; have := HJ.out; have := HCJ.out; omega
                    · rw [if_neg hol] at hRW
                      exact absurd hRW (by simp)
                · rw [if_neg hks] at hRW
                  exact absurd hRW (by simp)
              · have cjb0 : decide (xj < (yy.length : Int)) = false := decide_eq_false cj
                have hRW := HRW.out
                rw [List.drop_eq_nil_of_le (by have := HJ.out; omega)] at hRW
                simp only [cellsRow] at hRW
                have hte := Option.some.inj hRW
                subst hte
                clear hRW HRW
                go_wp2
                go_roundw
                case rel => exact ⟨wrap64 (xi + 1), seen2, out2, (by first | rfl | (simp; done) | (simp [*]; done)), ⟨by rw [HW.out]; have := HI.out; have := HC.out; omega⟩, ⟨by rw [HT.out]; exact HAL.out⟩, ⟨HLN.out⟩, ⟨HS.out⟩, ⟨by (with_reducible repeat (first | apply rA | apply rN | apply rD)); exact HO.out⟩, ⟨by (with_reducible repeat (first | apply rA | apply rN | apply rD)); exact HX.out⟩, ⟨by (with_reducible repeat (first | apply rA | apply rN | apply rD)); exact HY.out⟩, ⟨(by repeat (first | (with_reducible first | exact HB.out | apply lA | apply lN | apply lD) | exact HB.out))⟩⟩
                case measure => simp only [intOf, HT.out]; have := HI.out; have := HC.out; omega
          · have cib0 : decide (xi < (cx.length : Int)) = false := decide_eq_false ci
            have hAL := HAL.out
            rw [List.drop_eq_nil_of_le (by have := HI.out; omega)] at hAL
            simp only [cellsAll] at hAL
            have hte := Option.some.inj hAL
            subst hte
            clear hAL HAL
            go_wp2
            go_ret2
            exact ⟨_, rfl, by (with_reducible repeat (first | apply rA | apply rN | apply rD)); exact HO.out, (by repeat (first | (with_reducible first | exact HB.out | apply lA | apply lN | apply lD) | exact HB.out))⟩
end Go.Proofs.Ytdkbfcogmlghfaa.P
