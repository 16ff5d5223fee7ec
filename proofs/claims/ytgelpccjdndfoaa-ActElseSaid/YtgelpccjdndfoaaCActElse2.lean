/- Part of the proof of the law ActElse: the functions that it reaches, by contract. -/
import Derived.Deep.Slices
import Derived.Test.YtgelpccjdndfoaaCActElse0
import Derived.Test.YtgelpccjdndfoaaCActElse1
namespace Go.Proofs.Ytgelpccjdndfoaa.P
open Go.RowKit Go.Proofs.YtgelpccjdndfoaaW.PrintWords Go.Proofs.YtgelpccjdndfoaaW.PrintLast Go.Proofs.YtgelpccjdndfoaaW.PrintMore
attribute [local go_sem] max2_int min2_int max_two min_two max_three min_three max_four min_four
set_option linter.unusedVariables false
set_option linter.unusedSimpArgs false

/-! ### dragomanlaw12_alive: function 8 -/
def q14z.f (k : Nat)  : Option (Bool) := (q9z.f k 5 0 (([1, 2] : List Int)) ([] : List (S53)) 0 0 (([3] : List Int)) ([] : List Int) 0 0 0 0).bind fun bt7 => ((q9z.f k 6 0 (([5, 3] : List Int)) ([] : List (S53)) 0 0 ([] : List Int) (([4] : List Int)) 0 0 0 0).bind fun bt26 => ((q9z.f k 8 0 ([] : List Int) (([(⟨false, (([(⟨4259840000, 4259905535⟩ : S50)] : List (S50)))⟩ : S53)] : List (S53))) 0 0 ([] : List Int) (([458759, 4259840001] : List Int)) 0 0 0 0).bind fun bt48 => ((q13z.f k bt7.2.2.1 (([1, 2, 3] : List Int))).bind fun t64 => (if t64 = true then ((q13z.f k bt26.2.2.2.1 (([3, 4, 5] : List Int))).bind fun t68 => (if t68 = true then ((q13z.f k bt48.2.2.2.1 (([458759] : List Int))).bind fun t72 => (some t72)) else (some false))) else (some false)))))
theorem q14z.mono : ∀ k, LeO (q14z.f k ) (q14z.f (k + 1) ) := by
 intro  k
 unfold q14z.f
 repeat' first
   | (with_reducible exact q9z.mono _ _ _ _ _ _ _ _ _ _ _ _ _)
   | (with_reducible exact q13z.mono _ _ _)
   | (with_reducible exact LeO.refl _)
   | (with_reducible exact LeO.none _)
   | (with_reducible refine LeO.ite ?_ ?_)
   | (with_reducible refine LeO.bind ?_ (fun _ => ?_))
   | exact q9z.mono _ _ _ _ _ _ _ _ _ _ _ _ _
   | exact q13z.mono _ _ _
   | exact LeO.none _
   | refine LeO.ite ?_ ?_
   | refine LeO.bind ?_ (fun _ => ?_)
set_option maxHeartbeats 8000000 in
set_option maxRecDepth 100000 in
theorem q14z.calls (k : Nat)  (r : Bool) (w : World) (h : q14z.f k  = some r) :
  Calls Try.prog 8 #[] w fun e w' => e = .returned (.bool r) ∧ Below w.heap.size w w' := by
 have hu26 := Try.underlying26
 have hu30 := Try.underlying30
 have hu50 := Try.underlying50
 have hu53 := Try.underlying53
 have HB := Aside0.mk (Below.refl w.heap.size w)
 have H : ((q9z.f k 5 0 (([1, 2] : List Int)) ([] : List (S53)) 0 0 (([3] : List Int)) ([] : List Int) 0 0 0 0).bind fun bt7 => ((q9z.f k 6 0 (([5, 3] : List Int)) ([] : List (S53)) 0 0 ([] : List Int) (([4] : List Int)) 0 0 0 0).bind fun bt26 => ((q9z.f k 8 0 ([] : List Int) (([(⟨false, (([(⟨4259840000, 4259905535⟩ : S50)] : List (S50)))⟩ : S53)] : List (S53))) 0 0 ([] : List Int) (([458759, 4259840001] : List Int)) 0 0 0 0).bind fun bt48 => ((q13z.f k bt7.2.2.1 (([1, 2, 3] : List Int))).bind fun t64 => (if t64 = true then ((q13z.f k bt26.2.2.2.1 (([3, 4, 5] : List Int))).bind fun t68 => (if t68 = true then ((q13z.f k bt48.2.2.2.1 (([458759] : List Int))).bind fun t72 => (some t72)) else (some false))) else (some false)))))) = some r := h
 clear h
 obtain ⟨y1, hy1⟩ : ∃ y_ : List Int, y_ = (([1, 2] : List Int)) := ⟨_, rfl⟩
 replace H : ((q9z.f k 5 0 y1 ([] : List (S53)) 0 0 (([3] : List Int)) ([] : List Int) 0 0 0 0).bind fun bt7 => ((q9z.f k 6 0 (([5, 3] : List Int)) ([] : List (S53)) 0 0 ([] : List Int) (([4] : List Int)) 0 0 0 0).bind fun bt26 => ((q9z.f k 8 0 ([] : List Int) (([(⟨false, (([(⟨4259840000, 4259905535⟩ : S50)] : List (S50)))⟩ : S53)] : List (S53))) 0 0 ([] : List Int) (([458759, 4259840001] : List Int)) 0 0 0 0).bind fun bt48 => ((q13z.f k bt7.2.2.1 (([1, 2, 3] : List Int))).bind fun t64 => (if t64 = true then ((q13z.f k bt26.2.2.2.1 (([3, 4, 5] : List Int))).bind fun t68 => (if t68 = true then ((q13z.f k bt48.2.2.2.1 (([458759] : List Int))).bind fun t72 => (some t72)) else (some false))) else (some false)))))) = some r := by first | (rw [hy1]; with_reducible exact H) | (have H2_ := (Option.bind_some _ _).symm.trans H; rw [hy1]; with_reducible exact H2_) | (have H2_ := (Option.bind_some _ _).symm.trans H; with_reducible exact H2_) | with_reducible exact H | (rw [hy1]; exact H) | exact H
 have Ny1 := Aside0.mk hy1
 clear hy1
 obtain ⟨y4, hy4⟩ : ∃ y_ : List Int, y_ = (([3] : List Int)) := ⟨_, rfl⟩
 replace H : ((q9z.f k 5 0 y1 ([] : List (S53)) 0 0 y4 ([] : List Int) 0 0 0 0).bind fun bt7 => ((q9z.f k 6 0 (([5, 3] : List Int)) ([] : List (S53)) 0 0 ([] : List Int) (([4] : List Int)) 0 0 0 0).bind fun bt26 => ((q9z.f k 8 0 ([] : List Int) (([(⟨false, (([(⟨4259840000, 4259905535⟩ : S50)] : List (S50)))⟩ : S53)] : List (S53))) 0 0 ([] : List Int) (([458759, 4259840001] : List Int)) 0 0 0 0).bind fun bt48 => ((q13z.f k bt7.2.2.1 (([1, 2, 3] : List Int))).bind fun t64 => (if t64 = true then ((q13z.f k bt26.2.2.2.1 (([3, 4, 5] : List Int))).bind fun t68 => (if t68 = true then ((q13z.f k bt48.2.2.2.1 (([458759] : List Int))).bind fun t72 => (some t72)) else (some false))) else (some false)))))) = some r := by first | (rw [hy4]; with_reducible exact H) | (have H2_ := (Option.bind_some _ _).symm.trans H; rw [hy4]; with_reducible exact H2_) | (have H2_ := (Option.bind_some _ _).symm.trans H; with_reducible exact H2_) | with_reducible exact H | (rw [hy4]; exact H) | exact H
 have Ny4 := Aside0.mk hy4
 clear hy4
 replace H := Option.bind_eq_some_iff.mp H
 obtain ⟨⟨t7, t8, t9, t12, t15, t16, t17, t18⟩, A10, H⟩ := H
 replace H : ((q9z.f k 6 0 (([5, 3] : List Int)) ([] : List (S53)) 0 0 ([] : List Int) (([4] : List Int)) 0 0 0 0).bind fun bt26 => ((q9z.f k 8 0 ([] : List Int) (([(⟨false, (([(⟨4259840000, 4259905535⟩ : S50)] : List (S50)))⟩ : S53)] : List (S53))) 0 0 ([] : List Int) (([458759, 4259840001] : List Int)) 0 0 0 0).bind fun bt48 => ((q13z.f k t9 (([1, 2, 3] : List Int))).bind fun t64 => (if t64 = true then ((q13z.f k bt26.2.2.2.1 (([3, 4, 5] : List Int))).bind fun t68 => (if t68 = true then ((q13z.f k bt48.2.2.2.1 (([458759] : List Int))).bind fun t72 => (some t72)) else (some false))) else (some false))))) = some r := H
 have A1 := Aside0.mk A10
 clear A10
 obtain ⟨y20, hy20⟩ : ∃ y_ : List Int, y_ = (([5, 3] : List Int)) := ⟨_, rfl⟩
 replace H : ((q9z.f k 6 0 y20 ([] : List (S53)) 0 0 ([] : List Int) (([4] : List Int)) 0 0 0 0).bind fun bt26 => ((q9z.f k 8 0 ([] : List Int) (([(⟨false, (([(⟨4259840000, 4259905535⟩ : S50)] : List (S50)))⟩ : S53)] : List (S53))) 0 0 ([] : List Int) (([458759, 4259840001] : List Int)) 0 0 0 0).bind fun bt48 => ((q13z.f k t9 (([1, 2, 3] : List Int))).bind fun t64 => (if t64 = true then ((q13z.f k bt26.2.2.2.1 (([3, 4, 5] : List Int))).bind fun t68 => (if t68 = true then ((q13z.f k bt48.2.2.2.1 (([458759] : List Int))).bind fun t72 => (some t72)) else (some false))) else (some false))))) = some r := by first | (rw [hy20]; with_reducible exact H) | (have H2_ := (Option.bind_some _ _).symm.trans H; rw [hy20]; with_reducible exact H2_) | (have H2_ := (Option.bind_some _ _).symm.trans H; with_reducible exact H2_) | with_reducible exact H | (rw [hy20]; exact H) | exact H
 have Ny20 := Aside0.mk hy20
 clear hy20
 obtain ⟨y23, hy23⟩ : ∃ y_ : List Int, y_ = (([4] : List Int)) := ⟨_, rfl⟩
 replace H : ((q9z.f k 6 0 y20 ([] : List (S53)) 0 0 ([] : List Int) y23 0 0 0 0).bind fun bt26 => ((q9z.f k 8 0 ([] : List Int) (([(⟨false, (([(⟨4259840000, 4259905535⟩ : S50)] : List (S50)))⟩ : S53)] : List (S53))) 0 0 ([] : List Int) (([458759, 4259840001] : List Int)) 0 0 0 0).bind fun bt48 => ((q13z.f k t9 (([1, 2, 3] : List Int))).bind fun t64 => (if t64 = true then ((q13z.f k bt26.2.2.2.1 (([3, 4, 5] : List Int))).bind fun t68 => (if t68 = true then ((q13z.f k bt48.2.2.2.1 (([458759] : List Int))).bind fun t72 => (some t72)) else (some false))) else (some false))))) = some r := by first | (rw [hy23]; with_reducible exact H) | (have H2_ := (Option.bind_some _ _).symm.trans H; rw [hy23]; with_reducible exact H2_) | (have H2_ := (Option.bind_some _ _).symm.trans H; with_reducible exact H2_) | with_reducible exact H | (rw [hy23]; exact H) | exact H
 have Ny23 := Aside0.mk hy23
 clear hy23
 replace H := Option.bind_eq_some_iff.mp H
 obtain ⟨⟨t26, t27, t28, t31, t34, t35, t36, t37⟩, A20, H⟩ := H
 replace H : ((q9z.f k 8 0 ([] : List Int) (([(⟨false, (([(⟨4259840000, 4259905535⟩ : S50)] : List (S50)))⟩ : S53)] : List (S53))) 0 0 ([] : List Int) (([458759, 4259840001] : List Int)) 0 0 0 0).bind fun bt48 => ((q13z.f k t9 (([1, 2, 3] : List Int))).bind fun t64 => (if t64 = true then ((q13z.f k t31 (([3, 4, 5] : List Int))).bind fun t68 => (if t68 = true then ((q13z.f k bt48.2.2.2.1 (([458759] : List Int))).bind fun t72 => (some t72)) else (some false))) else (some false)))) = some r := H
 have A2 := Aside0.mk A20
 clear A20
 obtain ⟨y39, hy39⟩ : ∃ y_ : List (S50), y_ = (([(⟨4259840000, 4259905535⟩ : S50)] : List (S50))) := ⟨_, rfl⟩
 replace H : ((q9z.f k 8 0 ([] : List Int) (([(⟨false, y39⟩ : S53)] : List (S53))) 0 0 ([] : List Int) (([458759, 4259840001] : List Int)) 0 0 0 0).bind fun bt48 => ((q13z.f k t9 (([1, 2, 3] : List Int))).bind fun t64 => (if t64 = true then ((q13z.f k t31 (([3, 4, 5] : List Int))).bind fun t68 => (if t68 = true then ((q13z.f k bt48.2.2.2.1 (([458759] : List Int))).bind fun t72 => (some t72)) else (some false))) else (some false)))) = some r := by first | (rw [hy39]; with_reducible exact H) | (have H2_ := (Option.bind_some _ _).symm.trans H; rw [hy39]; with_reducible exact H2_) | (have H2_ := (Option.bind_some _ _).symm.trans H; with_reducible exact H2_) | with_reducible exact H | (rw [hy39]; exact H) | exact H
 have Ny39 := Aside0.mk hy39
 clear hy39
 obtain ⟨y42, hy42⟩ : ∃ y_ : List (S53), y_ = (([(⟨false, y39⟩ : S53)] : List (S53))) := ⟨_, rfl⟩
 replace H : ((q9z.f k 8 0 ([] : List Int) y42 0 0 ([] : List Int) (([458759, 4259840001] : List Int)) 0 0 0 0).bind fun bt48 => ((q13z.f k t9 (([1, 2, 3] : List Int))).bind fun t64 => (if t64 = true then ((q13z.f k t31 (([3, 4, 5] : List Int))).bind fun t68 => (if t68 = true then ((q13z.f k bt48.2.2.2.1 (([458759] : List Int))).bind fun t72 => (some t72)) else (some false))) else (some false)))) = some r := by first | (rw [hy42]; with_reducible exact H) | (have H2_ := (Option.bind_some _ _).symm.trans H; rw [hy42]; with_reducible exact H2_) | (have H2_ := (Option.bind_some _ _).symm.trans H; with_reducible exact H2_) | with_reducible exact H | (rw [hy42]; exact H) | exact H
 have Ny42 := Aside0.mk hy42
 clear hy42
 obtain ⟨y45, hy45⟩ : ∃ y_ : List Int, y_ = (([458759, 4259840001] : List Int)) := ⟨_, rfl⟩
 replace H : ((q9z.f k 8 0 ([] : List Int) y42 0 0 ([] : List Int) y45 0 0 0 0).bind fun bt48 => ((q13z.f k t9 (([1, 2, 3] : List Int))).bind fun t64 => (if t64 = true then ((q13z.f k t31 (([3, 4, 5] : List Int))).bind fun t68 => (if t68 = true then ((q13z.f k bt48.2.2.2.1 (([458759] : List Int))).bind fun t72 => (some t72)) else (some false))) else (some false)))) = some r := by first | (rw [hy45]; with_reducible exact H) | (have H2_ := (Option.bind_some _ _).symm.trans H; rw [hy45]; with_reducible exact H2_) | (have H2_ := (Option.bind_some _ _).symm.trans H; with_reducible exact H2_) | with_reducible exact H | (rw [hy45]; exact H) | exact H
 have Ny45 := Aside0.mk hy45
 clear hy45
 replace H := Option.bind_eq_some_iff.mp H
 obtain ⟨⟨t48, t49, t50, t53, t56, t57, t58, t59⟩, A30, H⟩ := H
 replace H : ((q13z.f k t9 (([1, 2, 3] : List Int))).bind fun t64 => (if t64 = true then ((q13z.f k t31 (([3, 4, 5] : List Int))).bind fun t68 => (if t68 = true then ((q13z.f k t53 (([458759] : List Int))).bind fun t72 => (some t72)) else (some false))) else (some false))) = some r := H
 have A3 := Aside0.mk A30
 clear A30
 obtain ⟨y61, hy61⟩ : ∃ y_ : List Int, y_ = (([1, 2, 3] : List Int)) := ⟨_, rfl⟩
 replace H : ((q13z.f k t9 y61).bind fun t64 => (if t64 = true then ((q13z.f k t31 (([3, 4, 5] : List Int))).bind fun t68 => (if t68 = true then ((q13z.f k t53 (([458759] : List Int))).bind fun t72 => (some t72)) else (some false))) else (some false))) = some r := by first | (rw [hy61]; with_reducible exact H) | (have H2_ := (Option.bind_some _ _).symm.trans H; rw [hy61]; with_reducible exact H2_) | (have H2_ := (Option.bind_some _ _).symm.trans H; with_reducible exact H2_) | with_reducible exact H | (rw [hy61]; exact H) | exact H
 have Ny61 := Aside0.mk hy61
 clear hy61
 replace H := Option.bind_eq_some_iff.mp H
 obtain ⟨t64, A40, H⟩ := H
 replace H : (if t64 = true then ((q13z.f k t31 (([3, 4, 5] : List Int))).bind fun t68 => (if t68 = true then ((q13z.f k t53 (([458759] : List Int))).bind fun t72 => (some t72)) else (some false))) else (some false)) = some r := H
 have A4 := Aside0.mk A40
 clear A40
 have HH_c5 := Aside0.mk H
 clear H
 go_enter Try.func8, Try.ntmps8
 go_upto_region 4 with (first | ((with_reducible refine gate_dst (N := 4) rfl ?_); (try (refine gate_guard (by rfl) ?_; dsimp only)); refine Kd.R_lit (Kd.int .u32) _ 22 ?hg (N := 4) ?hd (xs := ([1, 2] : List Int)) (inner := [.int .u32 1, .int .u32 2]) (ok := fun _ => True) (okp := fun _ => True) ?hr ?hp (fun _ hk => hk) trivial (Below.refl _ _) (Nat.le_refl _) (by simp) ?_; (case hd => rfl); (case hg => rfl); (case hr => first | (go_simp; done) | (go_simp; rfl)); (case hp => exact (Reps.one (show Kd.M (Kd.int .u32) _ _ _ 1 [.int .u32 1] from rfl) (Reps.one (show Kd.M (Kd.int .u32) _ _ _ 2 [.int .u32 2] from rfl) (Reps.none _ _)))); intro v2 w9 ho10 hb hg_ hnew_; clear hg_ hnew_; (first | rw [← Ny1.out] at ho10 | (simp only [Int.reduceToNat] at ho10; rw [← Ny1.out] at ho10)); have HO3 := Aside0.mk (Kd.R_lower ho10 (below_size (hbW HB))); replace HB := hbS HB hb; clear hb ho10; obtain ⟨Ao11, co11, eo11⟩ := Kd.R_slice HO3.out; subst eo11) | ((with_reducible refine gate_dst (N := 6) rfl ?_); (try (refine gate_guard (by rfl) ?_; dsimp only)); refine Kd.R_lit (Kd.int .u32) _ 22 ?hg (N := 6) ?hd (xs := ([3] : List Int)) (inner := [.int .u32 3]) (ok := fun _ => True) (okp := fun _ => True) ?hr ?hp (fun _ hk => hk) trivial (Below.refl _ _) (Nat.le_refl _) (by simp) ?_; (case hd => rfl); (case hg => rfl); (case hr => first | (go_simp; done) | (go_simp; rfl)); (case hp => exact (Reps.one (show Kd.M (Kd.int .u32) _ _ _ 3 [.int .u32 3] from rfl) (Reps.none _ _))); intro v5 w12 ho13 hb hg_ hnew_; clear hg_ hnew_; (first | rw [← Ny4.out] at ho13 | (simp only [Int.reduceToNat] at ho13; rw [← Ny4.out] at ho13)); have HO6 := Aside0.mk (Kd.R_lower (Kd.R_new' ho13 (Kd.R_lt (rW HO3))) (below_size (hbW HB))); replace HO3 := Aside0.mk (Kd.R_elder' (rW HO3) (Kd.R_base ho13) hb); replace HB := hbS HB hb; clear hb ho13; obtain ⟨Ao14, co14, eo14⟩ := Kd.R_slice HO6.out; subst eo14) | ((with_reducible refine gate_callee (f := 13) rfl ?_); refine goesL_ (some 8) rfl rfl Try.func13 (by kernel_rfl) rfl #[.agg #[.int .i64 5, .int .u32 0, .slice Ao11 y1.length co11, .slice none 0 0], .agg #[.int .u32 0, .int .i64 0, .slice Ao14 y4.length co14, .slice none 0 0, .int .u32 0, .int .u32 0, .int .i64 0, .int .u32 0]] rfl (by (try simp only [List.map_toArray, List.map_cons, List.map_nil]); first | done | rfl | (simp only [List.length_drop, List.length_take]; rfl)) ?_; (refine (q9z.calls k 5 0 (fun k_ => some k_ = (.slice Ao11 y1.length co11 : Value).ownBlock) _ _ y1 _ _ ([] : List (S53)) 0 0 _ _ y4 _ _ ([] : List Int) 0 0 0 0 t7 t8 t9 t12 t15 t16 t17 t18 _ ?side1 ?side2 ?side3 ?side4 ?side5 ?side6 ?side7 A1.out).mono ?_); (case side1 => exact Kd.R_V (Kd.R_tight rfl (HO3.out))); (case side2 => exact Kd.C_nil _ _); (case side3 => exact Nat.le_refl _); (case side4 => repeat (first | exact (Kd.R_reads' HO6.out).2.2 | (with_reducible refine Kd.C_alloc ?_ _) | (with_reducible refine Kd.C_drewN ?_ _) | (with_reducible refine Kd.C_drew ?_))); (case side5 => exact (Kd.R_reads' HO6.out).2.1); (case side6 => exact Kd.C_nil _ _); (case side7 => exact Nat.le_refl _); rintro e w15 ⟨v10, v13, rfl, ho0, ho1, hb⟩; refine ⟨_, rfl, ?_⟩; have HO11 := Aside0.mk (Kd.R_lower (Kd.R_new' (Kd.R_new' (Kd.R_mono (ok' := fun k_ => some k_ ≠ (v13 : Value).ownBlock) ho0 (fun _ hk_ => hk_.2)) (Kd.R_lt (rW HO3))) (Kd.R_lt (rW HO6))) (below_size (hbW HB))); have HO14 := Aside0.mk (Kd.R_lower (Kd.R_new' (Kd.R_new' (Kd.R_mono (ok' := fun k_ => some k_ ≠ (v10 : Value).ownBlock) ho1 (fun _ hk_ => hk_.2)) (Kd.R_lt (rW HO3))) (Kd.R_lt (rW HO6))) (below_size (hbW HB))); replace HO3 := Aside0.mk (Kd.R_mono (Kd.R_told (Kd.R_told (Kd.R_old (rW HO3) hb) (Kd.R_base ho0)) (Kd.R_base ho1)) (fun _ h_ => h_.1)); replace HO6 := Aside0.mk (Kd.R_mono (Kd.R_told (Kd.R_told (Kd.R_old (rW HO6) hb) (Kd.R_base ho0)) (Kd.R_base ho1)) (fun _ h_ => h_.1)); replace HB := hbS HB hb; (try clear hb); (try clear hk); (try clear ho0); (try clear ho1)) | ((with_reducible refine gate_dst (N := 1) rfl ?_); (try (refine gate_guard (by rfl) ?_; dsimp only)); refine box_event ?hg (N := 1) ?hd (cs := #[.int .u32 0, .int .i64 0, .slice none 0 0, .slice none 0 0, .int .u32 0, .int .u32 0, .int .i64 0, .int .u32 0]) (t := 30) ?hr ?_; (case hd => rfl); (case hg => rfl); (case hr => first | (go_simp; done) | (go_simp; rfl)); intro gb19 hg w16 hbox hb; have BK19 := Aside0.mk (hbox); have GW19 := Aside0.mk ((by rw [hg]; exact (below_size (hbW HB)) : w.heap.size ≤ gb19)); have GE19 := Aside0.mk ((by rw [hg]; exact (below_size (hbW HB)) : w.heap.size ≤ gb19)); replace HO3 := Aside0.mk (Kd.R_below (rW HO3) hb); replace HO6 := Aside0.mk (Kd.R_below (rW HO6) hb); replace HO11 := Aside0.mk (Kd.R_below (rW HO11) hb); replace HO14 := Aside0.mk (Kd.R_below (rW HO14) hb); replace HB := hbS HB hb; clear hb hbox hg; obtain ⟨hcz17_0, hcz17_1, hcz17_2, hcz17_3, hcz17_4, hcz17_5, hcz17_6, hcz17_7, hfz17_0, hfz17_1, hfz17_2, hfz17_3, hfz17_4, hfz17_5, hfz17_6, hfz17_7⟩ := bc8 BK19; obtain ⟨Ao18, co18, eo18⟩ := Kd.R_slice HO11.out; subst eo18; obtain ⟨Ao19, co19, eo19⟩ := Kd.R_slice HO14.out; subst eo19) | ((with_reducible refine gate_dst (N := 9) rfl ?_); (try (refine gate_guard (by rfl) ?_; dsimp only)); refine Kd.R_lit (Kd.int .u32) _ 22 ?hg (N := 9) ?hd (xs := ([5, 3] : List Int)) (inner := [.int .u32 5, .int .u32 3]) (ok := fun _ => True) (okp := fun _ => True) ?hr ?hp (fun _ hk => hk) trivial (Below.refl _ _) (Nat.le_refl _) (by simp) ?_; (case hd => rfl); (case hg => rfl); (case hr => first | (go_simp; done) | (go_simp; rfl)); (case hp => exact (Reps.one (show Kd.M (Kd.int .u32) _ _ _ 5 [.int .u32 5] from rfl) (Reps.one (show Kd.M (Kd.int .u32) _ _ _ 3 [.int .u32 3] from rfl) (Reps.none _ _)))); intro v21 w20 ho21 hb hg_ hnew_; clear hg_ hnew_; (first | rw [← Ny20.out] at ho21 | (simp only [Int.reduceToNat] at ho21; rw [← Ny20.out] at ho21)); have HO22 := Aside0.mk (Kd.R_lower (Kd.R_new' (Kd.R_new' (Kd.R_new' (Kd.R_new' ho21 (Kd.R_lt (rW HO3))) (Kd.R_lt (rW HO6))) (Kd.R_lt (rW HO11))) (Kd.R_lt (rW HO14))) (below_size (hbW HB))); replace HO3 := Aside0.mk (Kd.R_elder' (rW HO3) (Kd.R_base ho21) hb); replace HO6 := Aside0.mk (Kd.R_elder' (rW HO6) (Kd.R_base ho21) hb); replace HO11 := Aside0.mk (Kd.R_elder' (rW HO11) (Kd.R_base ho21) hb); replace HO14 := Aside0.mk (Kd.R_elder' (rW HO14) (Kd.R_base ho21) hb); replace BK19 := Aside0.mk (blk_below (g := gb19) (o := .cells #[.int .u32 t7, .int .i64 t8, .slice Ao18 t9.length co18, .slice Ao19 t12.length co19, .int .u32 t15, .int .u32 t16, .int .i64 t17, .int .u32 t18] 30 (0, 0)) (bp8 BK19) hb); replace HB := hbS HB hb; clear hb ho21; obtain ⟨Ao22, co22, eo22⟩ := Kd.R_slice HO22.out; subst eo22) | ((with_reducible refine gate_dst (N := 11) rfl ?_); (try (refine gate_guard (by rfl) ?_; dsimp only)); refine Kd.R_lit (Kd.int .u32) _ 22 ?hg (N := 11) ?hd (xs := ([4] : List Int)) (inner := [.int .u32 4]) (ok := fun _ => True) (okp := fun _ => True) ?hr ?hp (fun _ hk => hk) trivial (Below.refl _ _) (Nat.le_refl _) (by simp) ?_; (case hd => rfl); (case hg => rfl); (case hr => first | (go_simp; done) | (go_simp; rfl)); (case hp => exact (Reps.one (show Kd.M (Kd.int .u32) _ _ _ 4 [.int .u32 4] from rfl) (Reps.none _ _))); intro v24 w23 ho24 hb hg_ hnew_; clear hg_ hnew_; (first | rw [← Ny23.out] at ho24 | (simp only [Int.reduceToNat] at ho24; rw [← Ny23.out] at ho24)); have HO25 := Aside0.mk (Kd.R_lower (Kd.R_new' (Kd.R_new' (Kd.R_new' (Kd.R_new' (Kd.R_new' ho24 (Kd.R_lt (rW HO3))) (Kd.R_lt (rW HO6))) (Kd.R_lt (rW HO11))) (Kd.R_lt (rW HO14))) (Kd.R_lt (rW HO22))) (below_size (hbW HB))); replace HO3 := Aside0.mk (Kd.R_elder' (rW HO3) (Kd.R_base ho24) hb); replace HO6 := Aside0.mk (Kd.R_elder' (rW HO6) (Kd.R_base ho24) hb); replace HO11 := Aside0.mk (Kd.R_elder' (rW HO11) (Kd.R_base ho24) hb); replace HO14 := Aside0.mk (Kd.R_elder' (rW HO14) (Kd.R_base ho24) hb); replace HO22 := Aside0.mk (Kd.R_elder' (rW HO22) (Kd.R_base ho24) hb); replace BK19 := bkB BK19 hb; replace HB := hbS HB hb; clear hb ho24; obtain ⟨Ao25, co25, eo25⟩ := Kd.R_slice HO25.out; subst eo25) | ((with_reducible refine gate_callee (f := 13) rfl ?_); refine goesL_ (some 13) rfl rfl Try.func13 (by kernel_rfl) rfl #[.agg #[.int .i64 6, .int .u32 0, .slice Ao22 y20.length co22, .slice none 0 0], .agg #[.int .u32 0, .int .i64 0, .slice none 0 0, .slice Ao25 y23.length co25, .int .u32 0, .int .u32 0, .int .i64 0, .int .u32 0]] rfl (by (try simp only [List.map_toArray, List.map_cons, List.map_nil]); first | done | rfl | (simp only [List.length_drop, List.length_take]; rfl)) ?_; (refine (q9z.calls k 6 0 (fun k_ => some k_ = (.slice Ao22 y20.length co22 : Value).ownBlock) _ _ y20 _ _ ([] : List (S53)) 0 0 _ _ ([] : List Int) _ _ y23 0 0 0 0 t26 t27 t28 t31 t34 t35 t36 t37 _ ?side1 ?side2 ?side3 ?side4 ?side5 ?side6 ?side7 A2.out).mono ?_); (case side1 => exact Kd.R_V (Kd.R_tight rfl (Kd.R_types (HO22.out) BK19.out (by decide)))); (case side2 => exact Kd.C_nil _ _); (case side3 => exact Nat.le_refl _); (case side4 => exact Kd.C_nil _ _); (case side5 => exact Nat.le_refl _); (case side6 => repeat (first | exact (Kd.R_reads' HO25.out).2.2 | (with_reducible refine Kd.C_alloc ?_ _) | (with_reducible refine Kd.C_drewN ?_ _) | (with_reducible refine Kd.C_drew ?_))); (case side7 => exact (Kd.R_reads' HO25.out).2.1); rintro e w26 ⟨v29, v32, rfl, ho0, ho1, hb⟩; refine ⟨_, rfl, ?_⟩; have HO30 := Aside0.mk (Kd.R_lower (Kd.R_new' (Kd.R_new' (Kd.R_new' (Kd.R_new' (Kd.R_new' (Kd.R_new' (Kd.R_mono (ok' := fun k_ => some k_ ≠ (v32 : Value).ownBlock) ho0 (fun _ hk_ => hk_.2)) (Kd.R_lt (rW HO3))) (Kd.R_lt (rW HO6))) (Kd.R_lt (rW HO11))) (Kd.R_lt (rW HO14))) (Kd.R_lt (rW HO22))) (Kd.R_lt (rW HO25))) (below_size (hbW HB))); have HO33 := Aside0.mk (Kd.R_lower (Kd.R_new' (Kd.R_new' (Kd.R_new' (Kd.R_new' (Kd.R_new' (Kd.R_new' (Kd.R_mono (ok' := fun k_ => some k_ ≠ (v29 : Value).ownBlock) ho1 (fun _ hk_ => hk_.2)) (Kd.R_lt (rW HO3))) (Kd.R_lt (rW HO6))) (Kd.R_lt (rW HO11))) (Kd.R_lt (rW HO14))) (Kd.R_lt (rW HO22))) (Kd.R_lt (rW HO25))) (below_size (hbW HB))); replace HO3 := Aside0.mk (Kd.R_mono (Kd.R_told (Kd.R_told (Kd.R_old (rW HO3) hb) (Kd.R_base ho0)) (Kd.R_base ho1)) (fun _ h_ => h_.1)); replace HO6 := Aside0.mk (Kd.R_mono (Kd.R_told (Kd.R_told (Kd.R_old (rW HO6) hb) (Kd.R_base ho0)) (Kd.R_base ho1)) (fun _ h_ => h_.1)); replace HO11 := Aside0.mk (Kd.R_mono (Kd.R_told (Kd.R_told (Kd.R_old (rW HO11) hb) (Kd.R_base ho0)) (Kd.R_base ho1)) (fun _ h_ => h_.1)); replace HO14 := Aside0.mk (Kd.R_mono (Kd.R_told (Kd.R_told (Kd.R_old (rW HO14) hb) (Kd.R_base ho0)) (Kd.R_base ho1)) (fun _ h_ => h_.1)); replace HO22 := Aside0.mk (Kd.R_mono (Kd.R_told (Kd.R_told (Kd.R_old (rW HO22) hb) (Kd.R_base ho0)) (Kd.R_base ho1)) (fun _ h_ => h_.1)); replace HO25 := Aside0.mk (Kd.R_mono (Kd.R_told (Kd.R_told (Kd.R_old (rW HO25) hb) (Kd.R_base ho0)) (Kd.R_base ho1)) (fun _ h_ => h_.1)); replace BK19 := bkB BK19 hb; replace HB := hbS HB hb; (try clear hb); (try clear hk); (try clear ho0); (try clear ho1)) | ((with_reducible refine gate_dst (N := 2) rfl ?_); (try (refine gate_guard (by rfl) ?_; dsimp only)); refine box_event ?hg (N := 2) ?hd (cs := #[.int .u32 0, .int .i64 0, .slice none 0 0, .slice none 0 0, .int .u32 0, .int .u32 0, .int .i64 0, .int .u32 0]) (t := 30) ?hr ?_; (case hd => rfl); (case hg => rfl); (case hr => first | (go_simp; done) | (go_simp; rfl)); intro gb38 hg w27 hbox hb; have BK38 := Aside0.mk (hbox); have GW38 := Aside0.mk ((by rw [hg]; exact (below_size (hbW HB)) : w.heap.size ≤ gb38)); have GE38 := Aside0.mk ((by rw [hg]; exact (below_size (hbW HB)) : w.heap.size ≤ gb38)); have NB19_38 := Aside0.mk ((by rw [hg]; exact Nat.ne_of_lt (blk_lt (bkW BK19)) : gb19 ≠ gb38)); have NB38_19 := Aside0.mk ((by rw [hg]; exact Nat.ne_of_gt (blk_lt (bkW BK19)) : gb38 ≠ gb19)); replace HO3 := Aside0.mk (Kd.R_below (rW HO3) hb); replace HO6 := Aside0.mk (Kd.R_below (rW HO6) hb); replace HO11 := Aside0.mk (Kd.R_below (rW HO11) hb); replace HO14 := Aside0.mk (Kd.R_below (rW HO14) hb); replace HO22 := Aside0.mk (Kd.R_below (rW HO22) hb); replace HO25 := Aside0.mk (Kd.R_below (rW HO25) hb); replace HO30 := Aside0.mk (Kd.R_below (rW HO30) hb); replace HO33 := Aside0.mk (Kd.R_below (rW HO33) hb); replace BK19 := bkB BK19 hb; replace HB := hbS HB hb; clear hb hbox hg; have hnb28 := NB38_19.out; have hnc28 := NB19_38.out; obtain ⟨hcz29_0, hcz29_1, hcz29_2, hcz29_3, hcz29_4, hcz29_5, hcz29_6, hcz29_7, hfz29_0, hfz29_1, hfz29_2, hfz29_3, hfz29_4, hfz29_5, hfz29_6, hfz29_7⟩ := bc8 BK38; obtain ⟨Ao30, co30, eo30⟩ := Kd.R_slice HO30.out; subst eo30; obtain ⟨Ao31, co31, eo31⟩ := Kd.R_slice HO33.out; subst eo31) | ((with_reducible refine gate_dst (N := 15) rfl ?_); (try (refine gate_guard (by rfl) ?_; dsimp only)); refine Kd.R_lit k50 _ 50 ?hg (N := 15) ?hd (xs := ([(⟨4259840000, 4259905535⟩ : S50)] : List (S50))) (inner := [.int .u32 4259840000, .int .u32 4259905535]) (ok := fun _ => True) (okp := fun _ => True) ?hr ?hp (fun _ hk => hk) trivial (Below.refl _ _) (Nat.le_refl _) (by simp) ?_; (case hd => rfl); (case hg => rfl); (case hr => first | (go_simp; done) | (go_simp; rfl)); (case hp => exact (Reps.c2 (show Kd.M k50 _ _ _ (⟨4259840000, 4259905535⟩ : S50) [.int .u32 4259840000, .int .u32 4259905535] from (k50_mkM _ _ _ (⟨4259840000, 4259905535⟩ : S50) )) (Reps.none _ _))); intro v40 w32 ho33 hb hg_ hnew_; clear hg_ hnew_; (first | rw [← Ny39.out] at ho33 | (simp only [Int.reduceToNat] at ho33; rw [← Ny39.out] at ho33)); have HO41 := Aside0.mk (Kd.R_lower ho33 (below_size (hbW HB))); replace HO3 := Aside0.mk (Kd.R_below (rW HO3) hb); replace HO6 := Aside0.mk (Kd.R_below (rW HO6) hb); replace HO11 := Aside0.mk (Kd.R_below (rW HO11) hb); replace HO14 := Aside0.mk (Kd.R_below (rW HO14) hb); replace HO22 := Aside0.mk (Kd.R_below (rW HO22) hb); replace HO25 := Aside0.mk (Kd.R_below (rW HO25) hb); replace HO30 := Aside0.mk (Kd.R_below (rW HO30) hb); replace HO33 := Aside0.mk (Kd.R_below (rW HO33) hb); replace BK19 := bvB BK19 hb; replace BK38 := Aside0.mk (blk_below (g := gb38) (o := .cells #[.int .u32 t26, .int .i64 t27, .slice Ao30 t28.length co30, .slice Ao31 t31.length co31, .int .u32 t34, .int .u32 t35, .int .i64 t36, .int .u32 t37] 30 (0, 0)) (bp8 BK38) hb); replace HB := hbS HB hb; clear hb ho33; obtain ⟨Ao34, co34, eo34⟩ := Kd.R_slice HO41.out; subst eo34) | ((with_reducible refine gate_dst (N := 17) rfl ?_); (try (refine gate_guard (by rfl) ?_; dsimp only)); refine Kd.N_lit k53 _ 53 ?hg (N' := 17) ?hd (xs := ([(⟨false, y39⟩ : S53)] : List (S53))) (inner := [.bool false, .slice Ao34 y39.length co34]) (ok := (fun k_ => some k_ ≠ (.slice Ao11 y1.length co11 : Value).ownBlock ∧ some k_ ≠ (.slice Ao14 y4.length co14 : Value).ownBlock ∧ some k_ ≠ (.slice Ao18 t9.length co18 : Value).ownBlock ∧ some k_ ≠ (.slice Ao19 t12.length co19 : Value).ownBlock ∧ some k_ ≠ (.slice Ao22 y20.length co22 : Value).ownBlock ∧ some k_ ≠ (.slice Ao25 y23.length co25 : Value).ownBlock ∧ some k_ ≠ (.slice Ao30 t28.length co30 : Value).ownBlock ∧ some k_ ≠ (.slice Ao31 t31.length co31 : Value).ownBlock ∧ k_ ≠ gb19 ∧ k_ ≠ gb38)) (okp := (fun k_ => some k_ ≠ (.slice Ao11 y1.length co11 : Value).ownBlock ∧ some k_ ≠ (.slice Ao14 y4.length co14 : Value).ownBlock ∧ some k_ ≠ (.slice Ao18 t9.length co18 : Value).ownBlock ∧ some k_ ≠ (.slice Ao19 t12.length co19 : Value).ownBlock ∧ some k_ ≠ (.slice Ao22 y20.length co22 : Value).ownBlock ∧ some k_ ≠ (.slice Ao25 y23.length co25 : Value).ownBlock ∧ some k_ ≠ (.slice Ao30 t28.length co30 : Value).ownBlock ∧ some k_ ≠ (.slice Ao31 t31.length co31 : Value).ownBlock ∧ k_ ≠ gb19 ∧ k_ ≠ gb38)) ?hr ?hp (fun _ hk => hk) ((show ∀ k_, w32.heap.size ≤ k_ → (fun k_ => some k_ ≠ (.slice Ao11 y1.length co11 : Value).ownBlock ∧ some k_ ≠ (.slice Ao14 y4.length co14 : Value).ownBlock ∧ some k_ ≠ (.slice Ao18 t9.length co18 : Value).ownBlock ∧ some k_ ≠ (.slice Ao19 t12.length co19 : Value).ownBlock ∧ some k_ ≠ (.slice Ao22 y20.length co22 : Value).ownBlock ∧ some k_ ≠ (.slice Ao25 y23.length co25 : Value).ownBlock ∧ some k_ ≠ (.slice Ao30 t28.length co30 : Value).ownBlock ∧ some k_ ≠ (.slice Ao31 t31.length co31 : Value).ownBlock ∧ k_ ≠ gb19 ∧ k_ ≠ gb38) k_ from fun k_ hk => ⟨Kd.fresh' (Kd.R_lt (rW HO3)) k_ hk, Kd.fresh' (Kd.R_lt (rW HO6)) k_ hk, Kd.fresh' (Kd.R_lt (rW HO11)) k_ hk, Kd.fresh' (Kd.R_lt (rW HO14)) k_ hk, Kd.fresh' (Kd.R_lt (rW HO22)) k_ hk, Kd.fresh' (Kd.R_lt (rW HO25)) k_ hk, Kd.fresh' (Kd.R_lt (rW HO30)) k_ hk, Kd.fresh' (Kd.R_lt (rW HO33)) k_ hk, Kd.freshB (g := gb19) (o := .cells #[.int .u32 t7, .int .i64 t8, .slice Ao18 t9.length co18, .slice Ao19 t12.length co19, .int .u32 t15, .int .u32 t16, .int .i64 t17, .int .u32 t18] 30 (0, 0)) (bkW BK19) k_ hk, Kd.freshB (g := gb38) (o := .cells #[.int .u32 t26, .int .i64 t27, .slice Ao30 t28.length co30, .slice Ao31 t31.length co31, .int .u32 t34, .int .u32 t35, .int .i64 t36, .int .u32 t37] 30 (0, 0)) (bkW BK38) k_ hk⟩) _ (Nat.le_refl _)) (Below.refl _ _) (Nat.le_refl _) (by simp) ?_; (case hd => rfl); (case hg => rfl); (case hr => first | (go_simp; done) | (go_simp; rfl)); (case hp => exact (Reps.c2 (show Kd.FK k53 _ _ (⟨false, y39⟩ : S53) [.bool false, .slice Ao34 y39.length co34] from (k53_mkF _ _ (⟨false, y39⟩ : S53) (Kd.R_reads' (Kd.R_mono (ok' := (fun k_ => some k_ ≠ (.slice Ao11 y1.length co11 : Value).ownBlock ∧ some k_ ≠ (.slice Ao14 y4.length co14 : Value).ownBlock ∧ some k_ ≠ (.slice Ao18 t9.length co18 : Value).ownBlock ∧ some k_ ≠ (.slice Ao19 t12.length co19 : Value).ownBlock ∧ some k_ ≠ (.slice Ao22 y20.length co22 : Value).ownBlock ∧ some k_ ≠ (.slice Ao25 y23.length co25 : Value).ownBlock ∧ some k_ ≠ (.slice Ao30 t28.length co30 : Value).ownBlock ∧ some k_ ≠ (.slice Ao31 t31.length co31 : Value).ownBlock ∧ k_ ≠ gb19 ∧ k_ ≠ gb38)) (Kd.R_types (Kd.R_types (Kd.R_apart' (Kd.R_apart' (Kd.R_apart' (Kd.R_apart' (Kd.R_apart' (Kd.R_apart' (Kd.R_apart' (Kd.R_apart' (HO41.out) (Kd.R_typed HO3.out) (by decide)) (Kd.R_typed HO6.out) (by decide)) (Kd.R_typed HO11.out) (by decide)) (Kd.R_typed HO14.out) (by decide)) (Kd.R_typed HO22.out) (by decide)) (Kd.R_typed HO25.out) (by decide)) (Kd.R_typed HO30.out) (by decide)) (Kd.R_typed HO33.out) (by decide)) BK19.out (by decide)) BK38.out (by decide)) (fun k_ hk => ⟨hk.1.1.1.1.1.1.1.1.1.2, ⟨hk.1.1.1.1.1.1.1.1.2, ⟨hk.1.1.1.1.1.1.1.2, ⟨hk.1.1.1.1.1.1.2, ⟨hk.1.1.1.1.1.2, ⟨hk.1.1.1.1.2, ⟨hk.1.1.1.2, ⟨hk.1.1.2, ⟨hk.1.2, hk.2⟩⟩⟩⟩⟩⟩⟩⟩⟩))).2.1 (Kd.R_F (Kd.R_mono (ok' := (fun k_ => some k_ ≠ (.slice Ao11 y1.length co11 : Value).ownBlock ∧ some k_ ≠ (.slice Ao14 y4.length co14 : Value).ownBlock ∧ some k_ ≠ (.slice Ao18 t9.length co18 : Value).ownBlock ∧ some k_ ≠ (.slice Ao19 t12.length co19 : Value).ownBlock ∧ some k_ ≠ (.slice Ao22 y20.length co22 : Value).ownBlock ∧ some k_ ≠ (.slice Ao25 y23.length co25 : Value).ownBlock ∧ some k_ ≠ (.slice Ao30 t28.length co30 : Value).ownBlock ∧ some k_ ≠ (.slice Ao31 t31.length co31 : Value).ownBlock ∧ k_ ≠ gb19 ∧ k_ ≠ gb38)) (Kd.R_types (Kd.R_types (Kd.R_apart' (Kd.R_apart' (Kd.R_apart' (Kd.R_apart' (Kd.R_apart' (Kd.R_apart' (Kd.R_apart' (Kd.R_apart' (HO41.out) (Kd.R_typed HO3.out) (by decide)) (Kd.R_typed HO6.out) (by decide)) (Kd.R_typed HO11.out) (by decide)) (Kd.R_typed HO14.out) (by decide)) (Kd.R_typed HO22.out) (by decide)) (Kd.R_typed HO25.out) (by decide)) (Kd.R_typed HO30.out) (by decide)) (Kd.R_typed HO33.out) (by decide)) BK19.out (by decide)) BK38.out (by decide)) (fun k_ hk => ⟨hk.1.1.1.1.1.1.1.1.1.2, ⟨hk.1.1.1.1.1.1.1.1.2, ⟨hk.1.1.1.1.1.1.1.2, ⟨hk.1.1.1.1.1.1.2, ⟨hk.1.1.1.1.1.2, ⟨hk.1.1.1.1.2, ⟨hk.1.1.1.2, ⟨hk.1.1.2, ⟨hk.1.2, hk.2⟩⟩⟩⟩⟩⟩⟩⟩⟩))))) (Reps.none _ _))); intro v43 w35 ho36 hb hg_ hnew_; clear hg_ hnew_; (first | rw [← Ny42.out] at ho36 | (simp only [Int.reduceToNat] at ho36; rw [← Ny42.out] at ho36)); have n0_ := Aside0.mk (Kd.R_below (rW HO3) hb); have n1_ := Aside0.mk (Kd.R_below (rW HO6) hb); have n2_ := Aside0.mk (Kd.R_below (rW HO11) hb); have n3_ := Aside0.mk (Kd.R_below (rW HO14) hb); have n4_ := Aside0.mk (Kd.R_below (rW HO22) hb); have n5_ := Aside0.mk (Kd.R_below (rW HO25) hb); have n6_ := Aside0.mk (Kd.R_below (rW HO30) hb); have n7_ := Aside0.mk (Kd.R_below (rW HO33) hb); have n8_ := Aside0.mk (Kd.N_lower ho36 (below_size (hbW HB))); have n9_ := bkB BK19 hb; have n10_ := bkB BK38 hb; have n11_ := hbS HB hb; clear HO3; clear HO6; clear HO11; clear HO14; clear HO22; clear HO25; clear HO30; clear HO33; clear BK19; clear BK38; clear HB; clear HO41; have HO3 := n0_; have HO6 := n1_; have HO11 := n2_; have HO14 := n3_; have HO22 := n4_; have HO25 := n5_; have HO30 := n6_; have HO33 := n7_; have HO44 := n8_; have BK19 := n9_; have BK38 := n10_; have HB := n11_; clear n0_ n1_ n2_ n3_ n4_ n5_ n6_ n7_ n8_ n9_ n10_ n11_; clear hb ho36; obtain ⟨Ao37, co37, eo37⟩ := Kd.N_slice HO44.out; subst eo37) | ((with_reducible refine gate_dst (N := 19) rfl ?_); (try (refine gate_guard (by rfl) ?_; dsimp only)); refine Kd.R_lit (Kd.int .u32) _ 22 ?hg (N := 19) ?hd (xs := ([458759, 4259840001] : List Int)) (inner := [.int .u32 458759, .int .u32 4259840001]) (ok := fun _ => True) (okp := fun _ => True) ?hr ?hp (fun _ hk => hk) trivial (Below.refl _ _) (Nat.le_refl _) (by simp) ?_; (case hd => rfl); (case hg => rfl); (case hr => first | (go_simp; done) | (go_simp; rfl)); (case hp => exact (Reps.one (show Kd.M (Kd.int .u32) _ _ _ 458759 [.int .u32 458759] from rfl) (Reps.one (show Kd.M (Kd.int .u32) _ _ _ 4259840001 [.int .u32 4259840001] from rfl) (Reps.none _ _)))); intro v46 w38 ho39 hb hg_ hnew_; clear hg_ hnew_; (first | rw [← Ny45.out] at ho39 | (simp only [Int.reduceToNat] at ho39; rw [← Ny45.out] at ho39)); have HO47 := Aside0.mk (Kd.R_lower (Kd.R_new' (Kd.R_new' (Kd.R_new' (Kd.R_new' (Kd.R_new' (Kd.R_new' (Kd.R_new' (Kd.R_new' ho39 (Kd.R_lt (rW HO3))) (Kd.R_lt (rW HO6))) (Kd.R_lt (rW HO11))) (Kd.R_lt (rW HO14))) (Kd.R_lt (rW HO22))) (Kd.R_lt (rW HO25))) (Kd.R_lt (rW HO30))) (Kd.R_lt (rW HO33))) (below_size (hbW HB))); replace HO3 := Aside0.mk (Kd.R_elder' (rW HO3) (Kd.R_base ho39) hb); replace HO6 := Aside0.mk (Kd.R_elder' (rW HO6) (Kd.R_base ho39) hb); replace HO11 := Aside0.mk (Kd.R_elder' (rW HO11) (Kd.R_base ho39) hb); replace HO14 := Aside0.mk (Kd.R_elder' (rW HO14) (Kd.R_base ho39) hb); replace HO22 := Aside0.mk (Kd.R_elder' (rW HO22) (Kd.R_base ho39) hb); replace HO25 := Aside0.mk (Kd.R_elder' (rW HO25) (Kd.R_base ho39) hb); replace HO30 := Aside0.mk (Kd.R_elder' (rW HO30) (Kd.R_base ho39) hb); replace HO33 := Aside0.mk (Kd.R_elder' (rW HO33) (Kd.R_base ho39) hb); replace HO44 := Aside0.mk (Kd.N_elder' (by (with_reducible repeat (first | apply Kd.N_alloc | apply Kd.N_drewN | apply Kd.N_drew)); exact HO44.out) (Kd.R_base ho39) hb); replace BK19 := bkB BK19 hb; replace BK38 := bkB BK38 hb; replace HB := hbS HB hb; clear hb ho39; obtain ⟨Ao40, co40, eo40⟩ := Kd.R_slice HO47.out; subst eo40) | ((with_reducible refine gate_callee (f := 13) rfl ?_); refine goesL_ (some 21) rfl rfl Try.func13 (by kernel_rfl) rfl #[.agg #[.int .i64 8, .int .u32 0, .slice none 0 0, .slice Ao37 y42.length co37], .agg #[.int .u32 0, .int .i64 0, .slice none 0 0, .slice Ao40 y45.length co40, .int .u32 0, .int .u32 0, .int .i64 0, .int .u32 0]] rfl (by (try simp only [List.map_toArray, List.map_cons, List.map_nil]); first | done | rfl | (simp only [List.length_drop, List.length_take]; rfl)) ?_; (refine (q9z.calls k 8 0 (fun k_ => False) _ _ ([] : List Int) _ _ y42 0 0 _ _ ([] : List Int) _ _ y45 0 0 0 0 t48 t49 t50 t53 t56 t57 t58 t59 _ ?side1 ?side2 ?side3 ?side4 ?side5 ?side6 ?side7 A3.out).mono ?_); (case side1 => exact Kd.V_nil _ _ _ _ _); (case side2 => repeat (first | exact (Kd.N_reads' HO44.out).2.2 | (with_reducible refine Kd.C_alloc ?_ _) | (with_reducible refine Kd.C_drewN ?_ _) | (with_reducible refine Kd.C_drew ?_))); (case side3 => exact (Kd.N_reads' HO44.out).2.1); (case side4 => exact Kd.C_nil _ _); (case side5 => exact Nat.le_refl _); (case side6 => repeat (first | exact (Kd.R_reads' HO47.out).2.2 | (with_reducible refine Kd.C_alloc ?_ _) | (with_reducible refine Kd.C_drewN ?_ _) | (with_reducible refine Kd.C_drew ?_))); (case side7 => exact (Kd.R_reads' HO47.out).2.1); rintro e w41 ⟨v51, v54, rfl, ho0, ho1, hb⟩; refine ⟨_, rfl, ?_⟩; have HO52 := Aside0.mk (Kd.R_lower (Kd.R_new' (Kd.R_new' (Kd.R_new' (Kd.R_new' (Kd.R_new' (Kd.R_new' (Kd.R_new' (Kd.R_new' (Kd.R_new' (Kd.R_mono (ok' := fun k_ => some k_ ≠ (v54 : Value).ownBlock) ho0 (fun _ hk_ => hk_.2)) (Kd.R_lt (rW HO3))) (Kd.R_lt (rW HO6))) (Kd.R_lt (rW HO11))) (Kd.R_lt (rW HO14))) (Kd.R_lt (rW HO22))) (Kd.R_lt (rW HO25))) (Kd.R_lt (rW HO30))) (Kd.R_lt (rW HO33))) (Kd.R_lt (rW HO47))) (below_size (hbW HB))); have HO55 := Aside0.mk (Kd.R_lower (Kd.R_new' (Kd.R_new' (Kd.R_new' (Kd.R_new' (Kd.R_new' (Kd.R_new' (Kd.R_new' (Kd.R_new' (Kd.R_new' (Kd.R_mono (ok' := fun k_ => some k_ ≠ (v51 : Value).ownBlock) ho1 (fun _ hk_ => hk_.2)) (Kd.R_lt (rW HO3))) (Kd.R_lt (rW HO6))) (Kd.R_lt (rW HO11))) (Kd.R_lt (rW HO14))) (Kd.R_lt (rW HO22))) (Kd.R_lt (rW HO25))) (Kd.R_lt (rW HO30))) (Kd.R_lt (rW HO33))) (Kd.R_lt (rW HO47))) (below_size (hbW HB))); replace HO3 := Aside0.mk (Kd.R_mono (Kd.R_told (Kd.R_told (Kd.R_old (rW HO3) hb) (Kd.R_base ho0)) (Kd.R_base ho1)) (fun _ h_ => h_.1)); replace HO6 := Aside0.mk (Kd.R_mono (Kd.R_told (Kd.R_told (Kd.R_old (rW HO6) hb) (Kd.R_base ho0)) (Kd.R_base ho1)) (fun _ h_ => h_.1)); replace HO11 := Aside0.mk (Kd.R_mono (Kd.R_told (Kd.R_told (Kd.R_old (rW HO11) hb) (Kd.R_base ho0)) (Kd.R_base ho1)) (fun _ h_ => h_.1)); replace HO14 := Aside0.mk (Kd.R_mono (Kd.R_told (Kd.R_told (Kd.R_old (rW HO14) hb) (Kd.R_base ho0)) (Kd.R_base ho1)) (fun _ h_ => h_.1)); replace HO22 := Aside0.mk (Kd.R_mono (Kd.R_told (Kd.R_told (Kd.R_old (rW HO22) hb) (Kd.R_base ho0)) (Kd.R_base ho1)) (fun _ h_ => h_.1)); replace HO25 := Aside0.mk (Kd.R_mono (Kd.R_told (Kd.R_told (Kd.R_old (rW HO25) hb) (Kd.R_base ho0)) (Kd.R_base ho1)) (fun _ h_ => h_.1)); replace HO30 := Aside0.mk (Kd.R_mono (Kd.R_told (Kd.R_told (Kd.R_old (rW HO30) hb) (Kd.R_base ho0)) (Kd.R_base ho1)) (fun _ h_ => h_.1)); replace HO33 := Aside0.mk (Kd.R_mono (Kd.R_told (Kd.R_told (Kd.R_old (rW HO33) hb) (Kd.R_base ho0)) (Kd.R_base ho1)) (fun _ h_ => h_.1)); replace HO44 := Aside0.mk (Kd.N_mono (Kd.N_told (Kd.N_told (Kd.N_old (by (with_reducible repeat (first | apply Kd.N_alloc | apply Kd.N_drewN | apply Kd.N_drew)); exact HO44.out) hb) (Kd.R_base ho0)) (Kd.R_base ho1)) (fun _ h_ => h_.1)); replace HO47 := Aside0.mk (Kd.R_mono (Kd.R_told (Kd.R_told (Kd.R_old (rW HO47) hb) (Kd.R_base ho0)) (Kd.R_base ho1)) (fun _ h_ => h_.1)); replace BK19 := bkB BK19 hb; replace BK38 := bkB BK38 hb; replace HB := hbS HB hb; (try clear hb); (try clear hk); (try clear ho0); (try clear ho1)) | ((with_reducible refine gate_dst (N := 3) rfl ?_); (try (refine gate_guard (by rfl) ?_; dsimp only)); refine box_event ?hg (N := 3) ?hd (cs := #[.int .u32 0, .int .i64 0, .slice none 0 0, .slice none 0 0, .int .u32 0, .int .u32 0, .int .i64 0, .int .u32 0]) (t := 30) ?hr ?_; (case hd => rfl); (case hg => rfl); (case hr => first | (go_simp; done) | (go_simp; rfl)); intro gb60 hg w42 hbox hb; have BK60 := Aside0.mk (hbox); have GW60 := Aside0.mk ((by rw [hg]; exact (below_size (hbW HB)) : w.heap.size ≤ gb60)); have GE60 := Aside0.mk ((by rw [hg]; exact (below_size (hbW HB)) : w.heap.size ≤ gb60)); have NB19_60 := Aside0.mk ((by rw [hg]; exact Nat.ne_of_lt (blk_lt (bkW BK19)) : gb19 ≠ gb60)); have NB60_19 := Aside0.mk ((by rw [hg]; exact Nat.ne_of_gt (blk_lt (bkW BK19)) : gb60 ≠ gb19)); have NB38_60 := Aside0.mk ((by rw [hg]; exact Nat.ne_of_lt (blk_lt (bkW BK38)) : gb38 ≠ gb60)); have NB60_38 := Aside0.mk ((by rw [hg]; exact Nat.ne_of_gt (blk_lt (bkW BK38)) : gb60 ≠ gb38)); replace HO3 := Aside0.mk (Kd.R_below (rW HO3) hb); replace HO6 := Aside0.mk (Kd.R_below (rW HO6) hb); replace HO11 := Aside0.mk (Kd.R_below (rW HO11) hb); replace HO14 := Aside0.mk (Kd.R_below (rW HO14) hb); replace HO22 := Aside0.mk (Kd.R_below (rW HO22) hb); replace HO25 := Aside0.mk (Kd.R_below (rW HO25) hb); replace HO30 := Aside0.mk (Kd.R_below (rW HO30) hb); replace HO33 := Aside0.mk (Kd.R_below (rW HO33) hb); replace HO44 := Aside0.mk (Kd.N_below (Kd.N_elderB (by (with_reducible repeat (first | apply Kd.N_alloc | apply Kd.N_drewN | apply Kd.N_drew)); exact HO44.out) gb60 (Nat.le_of_eq hg.symm)) hb); replace HO47 := Aside0.mk (Kd.R_below (rW HO47) hb); replace HO52 := Aside0.mk (Kd.R_below (rW HO52) hb); replace HO55 := Aside0.mk (Kd.R_below (rW HO55) hb); replace BK19 := bkB BK19 hb; replace BK38 := bkB BK38 hb; replace HB := hbS HB hb; clear hb hbox hg; have hnb43 := NB60_19.out; have hnc43 := NB19_60.out; have hnb44 := NB60_38.out; have hnc44 := NB38_60.out; obtain ⟨hcz45_0, hcz45_1, hcz45_2, hcz45_3, hcz45_4, hcz45_5, hcz45_6, hcz45_7, hfz45_0, hfz45_1, hfz45_2, hfz45_3, hfz45_4, hfz45_5, hfz45_6, hfz45_7⟩ := bc8 BK60; obtain ⟨Ao46, co46, eo46⟩ := Kd.R_slice HO52.out; subst eo46; obtain ⟨Ao47, co47, eo47⟩ := Kd.R_slice HO55.out; subst eo47; obtain ⟨hcz146_0, hcz146_1, hcz146_2, hcz146_3, hcz146_4, hcz146_5, hcz146_6, hcz146_7, hfz146_0, hfz146_1, hfz146_2, hfz146_3, hfz146_4, hfz146_5, hfz146_6, hfz146_7⟩ := bc8 BK19))
 have H := HH_c5.out
 clear HH_c5
 by_cases c5 : t64 = true
 ·
  subst c5
  have H1 : ((q13z.f k t31 (([3, 4, 5] : List Int))).bind fun t68 => (if t68 = true then ((q13z.f k t53 (([458759] : List Int))).bind fun t72 => (some t72)) else (some false))) = some r := by rw [if_pos rfl] at H; exact H
  clear H
  have H := H1
  clear H1
  obtain ⟨y65, hy65⟩ : ∃ y_ : List Int, y_ = (([3, 4, 5] : List Int)) := ⟨_, rfl⟩
  replace H : ((q13z.f k t31 y65).bind fun t68 => (if t68 = true then ((q13z.f k t53 (([458759] : List Int))).bind fun t72 => (some t72)) else (some false))) = some r := by first | (rw [hy65]; with_reducible exact H) | (have H2_ := (Option.bind_some _ _).symm.trans H; rw [hy65]; with_reducible exact H2_) | (have H2_ := (Option.bind_some _ _).symm.trans H; with_reducible exact H2_) | with_reducible exact H | (rw [hy65]; exact H) | exact H
  have Ny65 := Aside0.mk hy65
  clear hy65
  replace H := Option.bind_eq_some_iff.mp H
  obtain ⟨t68, A60, H⟩ := H
  replace H : (if t68 = true then ((q13z.f k t53 (([458759] : List Int))).bind fun t72 => (some t72)) else (some false)) = some r := H
  have A6 := Aside0.mk A60
  clear A60
  by_cases c7 : t68 = true
  ·
   subst c7
   have H1 : ((q13z.f k t53 (([458759] : List Int))).bind fun t72 => (some t72)) = some r := by rw [if_pos rfl] at H; exact H
   clear H
   have H := H1
   clear H1
   obtain ⟨y69, hy69⟩ : ∃ y_ : List Int, y_ = (([458759] : List Int)) := ⟨_, rfl⟩
   replace H : ((q13z.f k t53 y69).bind fun t72 => (some t72)) = some r := by first | (rw [hy69]; with_reducible exact H) | (have H2_ := (Option.bind_some _ _).symm.trans H; rw [hy69]; with_reducible exact H2_) | (have H2_ := (Option.bind_some _ _).symm.trans H; with_reducible exact H2_) | with_reducible exact H | (rw [hy69]; exact H) | exact H
   have Ny69 := Aside0.mk hy69
   clear hy69
   replace H := Option.bind_eq_some_iff.mp H
   obtain ⟨t72, A80, H⟩ := H
   replace H : (some t72) = some r := H
   have A8 := Aside0.mk A80
   clear A80
   obtain rfl := Option.some.inj H
   go_wp2_with (first | ((with_reducible refine gate_dst (N := 24) rfl ?_); (try (refine gate_guard (by rfl) ?_; dsimp only)); refine Kd.R_lit (Kd.int .u32) _ 22 ?hg (N := 24) ?hd (xs := ([1, 2, 3] : List Int)) (inner := [.int .u32 1, .int .u32 2, .int .u32 3]) (ok := fun _ => True) (okp := fun _ => True) ?hr ?hp (fun _ hk => hk) trivial (Below.refl _ _) (Nat.le_refl _) (by simp) ?_; (case hd => rfl); (case hg => rfl); (case hr => first | (go_simp; done) | (go_simp; rfl)); (case hp => exact (Reps.one (show Kd.M (Kd.int .u32) _ _ _ 1 [.int .u32 1] from rfl) (Reps.one (show Kd.M (Kd.int .u32) _ _ _ 2 [.int .u32 2] from rfl) (Reps.one (show Kd.M (Kd.int .u32) _ _ _ 3 [.int .u32 3] from rfl) (Reps.none _ _))))); intro v62 w49 ho50 hb hg_ hnew_; clear hg_ hnew_; (first | rw [← Ny61.out] at ho50 | (simp only [Int.reduceToNat] at ho50; rw [← Ny61.out] at ho50)); have HO63 := Aside0.mk (Kd.R_lower (Kd.R_new' (Kd.R_new' (Kd.R_new' (Kd.R_new' (Kd.R_new' (Kd.R_new' (Kd.R_new' (Kd.R_new' (Kd.R_new' (Kd.R_new' (Kd.R_new' ho50 (Kd.R_lt (rW HO3))) (Kd.R_lt (rW HO6))) (Kd.R_lt (rW HO11))) (Kd.R_lt (rW HO14))) (Kd.R_lt (rW HO22))) (Kd.R_lt (rW HO25))) (Kd.R_lt (rW HO30))) (Kd.R_lt (rW HO33))) (Kd.R_lt (rW HO47))) (Kd.R_lt (rW HO52))) (Kd.R_lt (rW HO55))) (below_size (hbW HB))); replace HO3 := Aside0.mk (Kd.R_elder' (rW HO3) (Kd.R_base ho50) hb); replace HO6 := Aside0.mk (Kd.R_elder' (rW HO6) (Kd.R_base ho50) hb); replace HO11 := Aside0.mk (Kd.R_elder' (rW HO11) (Kd.R_base ho50) hb); replace HO14 := Aside0.mk (Kd.R_elder' (rW HO14) (Kd.R_base ho50) hb); replace HO22 := Aside0.mk (Kd.R_elder' (rW HO22) (Kd.R_base ho50) hb); replace HO25 := Aside0.mk (Kd.R_elder' (rW HO25) (Kd.R_base ho50) hb); replace HO30 := Aside0.mk (Kd.R_elder' (rW HO30) (Kd.R_base ho50) hb); replace HO33 := Aside0.mk (Kd.R_elder' (rW HO33) (Kd.R_base ho50) hb); replace HO44 := Aside0.mk (Kd.N_elder' (by (with_reducible repeat (first | apply Kd.N_alloc | apply Kd.N_drewN | apply Kd.N_drew)); exact (Kd.N_mono (Kd.N_far (p := ⟨gb60, 7, none⟩) (Kd.N_far (p := ⟨gb60, 6, none⟩) (Kd.N_far (p := ⟨gb60, 5, none⟩) (Kd.N_far (p := ⟨gb60, 4, none⟩) (Kd.N_far (p := ⟨gb60, 3, none⟩) (Kd.N_far (p := ⟨gb60, 2, none⟩) (Kd.N_far (p := ⟨gb60, 1, none⟩) (Kd.N_far (p := ⟨gb60, 0, none⟩) (Kd.N_mono HO44.out (fun k_ hk => (⟨hk, hk.2⟩ : _ ∧ k_ ≠ gb60))) (fun _ hk => hk.2) (.int .u32 t48)) (fun _ hk => hk.2) (.int .i64 t49)) (fun _ hk => hk.2) (.slice Ao46 t50.length co46)) (fun _ hk => hk.2) (.slice Ao47 t53.length co47)) (fun _ hk => hk.2) (.int .u32 t56)) (fun _ hk => hk.2) (.int .u32 t57)) (fun _ hk => hk.2) (.int .i64 t58)) (fun _ hk => hk.2) (.int .u32 t59)) (fun _ h_ => h_.1))) (Kd.R_base ho50) hb); replace HO47 := Aside0.mk (Kd.R_elder' (rW HO47) (Kd.R_base ho50) hb); replace HO52 := Aside0.mk (Kd.R_elder' (rW HO52) (Kd.R_base ho50) hb); replace HO55 := Aside0.mk (Kd.R_elder' (rW HO55) (Kd.R_base ho50) hb); replace BK19 := bvB BK19 hb; replace BK38 := bvB BK38 hb; replace BK60 := Aside0.mk (blk_below (g := gb60) (o := .cells #[.int .u32 t48, .int .i64 t49, .slice Ao46 t50.length co46, .slice Ao47 t53.length co47, .int .u32 t56, .int .u32 t57, .int .i64 t58, .int .u32 t59] 30 (0, 0)) (bp8 BK60) hb); replace HB := hbS HB hb; clear hb ho50; obtain ⟨Ao51, co51, eo51⟩ := Kd.R_slice HO63.out; subst eo51) | ((with_reducible refine gate_callee (f := 20) rfl ?_); refine goesL_ (some 25) rfl rfl Try.func20 (by kernel_rfl) rfl #[.slice Ao18 t9.length co18, .slice Ao51 y61.length co51] rfl (by (try simp only [List.map_toArray, List.map_cons, List.map_nil]); first | done | rfl | (simp only [List.length_drop, List.length_take]; rfl)) ?_; (with_reducible refine (q13z.calls k _ _ t9 _ _ y61 true _ ?side1 ?side2 ?side3 ?side4 A4.out).mono ?_); (case side1 => repeat (first | exact (Kd.R_reads' HO11.out).2.2 | (with_reducible refine Kd.C_alloc ?_ _) | (with_reducible refine Kd.C_drewN ?_ _) | (with_reducible refine Kd.C_drew ?_))); (case side2 => exact (Kd.R_reads' HO11.out).2.1); (case side3 => repeat (first | exact (Kd.R_reads' HO63.out).2.2 | (with_reducible refine Kd.C_alloc ?_ _) | (with_reducible refine Kd.C_drewN ?_ _) | (with_reducible refine Kd.C_drew ?_))); (case side4 => exact (Kd.R_reads' HO63.out).2.1); rintro e w' ⟨rfl, ⟨nd, rfl⟩⟩; refine ⟨_, rfl, ?_⟩; obtain ⟨hcz52_0, hcz52_1, hcz52_2, hcz52_3, hcz52_4, hcz52_5, hcz52_6, hcz52_7, hfz52_0, hfz52_1, hfz52_2, hfz52_3, hfz52_4, hfz52_5, hfz52_6, hfz52_7⟩ := bc8 BK38) | ((with_reducible refine gate_dst (N := 29) rfl ?_); (try (refine gate_guard (by rfl) ?_; dsimp only)); refine Kd.R_lit (Kd.int .u32) _ 22 ?hg (N := 29) ?hd (xs := ([3, 4, 5] : List Int)) (inner := [.int .u32 3, .int .u32 4, .int .u32 5]) (ok := fun _ => True) (okp := fun _ => True) ?hr ?hp (fun _ hk => hk) trivial (Below.refl _ _) (Nat.le_refl _) (by simp) ?_; (case hd => rfl); (case hg => rfl); (case hr => first | (go_simp; done) | (go_simp; rfl)); (case hp => exact (Reps.one (show Kd.M (Kd.int .u32) _ _ _ 3 [.int .u32 3] from rfl) (Reps.one (show Kd.M (Kd.int .u32) _ _ _ 4 [.int .u32 4] from rfl) (Reps.one (show Kd.M (Kd.int .u32) _ _ _ 5 [.int .u32 5] from rfl) (Reps.none _ _))))); intro v66 w53 ho54 hb hg_ hnew_; clear hg_ hnew_; (first | rw [← Ny65.out] at ho54 | (simp only [Int.reduceToNat] at ho54; rw [← Ny65.out] at ho54)); have HO67 := Aside0.mk (Kd.R_lower (Kd.R_new' (Kd.R_new' (Kd.R_new' (Kd.R_new' (Kd.R_new' (Kd.R_new' (Kd.R_new' (Kd.R_new' (Kd.R_new' (Kd.R_new' (Kd.R_new' (Kd.R_new' ho54 (Kd.R_lt (rW HO3))) (Kd.R_lt (rW HO6))) (Kd.R_lt (rW HO11))) (Kd.R_lt (rW HO14))) (Kd.R_lt (rW HO22))) (Kd.R_lt (rW HO25))) (Kd.R_lt (rW HO30))) (Kd.R_lt (rW HO33))) (Kd.R_lt (rW HO47))) (Kd.R_lt (rW HO52))) (Kd.R_lt (rW HO55))) (Kd.R_lt (rW HO63))) (below_size (hbW HB))); replace HO3 := Aside0.mk (Kd.R_elder' (rW HO3) (Kd.R_base ho54) hb); replace HO6 := Aside0.mk (Kd.R_elder' (rW HO6) (Kd.R_base ho54) hb); replace HO11 := Aside0.mk (Kd.R_elder' (rW HO11) (Kd.R_base ho54) hb); replace HO14 := Aside0.mk (Kd.R_elder' (rW HO14) (Kd.R_base ho54) hb); replace HO22 := Aside0.mk (Kd.R_elder' (rW HO22) (Kd.R_base ho54) hb); replace HO25 := Aside0.mk (Kd.R_elder' (rW HO25) (Kd.R_base ho54) hb); replace HO30 := Aside0.mk (Kd.R_elder' (rW HO30) (Kd.R_base ho54) hb); replace HO33 := Aside0.mk (Kd.R_elder' (rW HO33) (Kd.R_base ho54) hb); replace HO44 := Aside0.mk (Kd.N_elder' (by (with_reducible repeat (first | apply Kd.N_alloc | apply Kd.N_drewN | apply Kd.N_drew)); exact HO44.out) (Kd.R_base ho54) hb); replace HO47 := Aside0.mk (Kd.R_elder' (rW HO47) (Kd.R_base ho54) hb); replace HO52 := Aside0.mk (Kd.R_elder' (rW HO52) (Kd.R_base ho54) hb); replace HO55 := Aside0.mk (Kd.R_elder' (rW HO55) (Kd.R_base ho54) hb); replace HO63 := Aside0.mk (Kd.R_elder' (rW HO63) (Kd.R_base ho54) hb); replace BK19 := bkB BK19 hb; replace BK38 := bkB BK38 hb; replace BK60 := bkB BK60 hb; replace HB := hbS HB hb; clear hb ho54; obtain ⟨Ao55, co55, eo55⟩ := Kd.R_slice HO67.out; subst eo55) | (go_at_call 20; (with_reducible refine (q13z.calls k _ _ t31 _ _ y65 true _ ?side1 ?side2 ?side3 ?side4 A6.out).mono ?_); (case side1 => repeat (first | exact (Kd.R_reads' HO33.out).2.2 | (with_reducible refine Kd.C_alloc ?_ _) | (with_reducible refine Kd.C_drewN ?_ _) | (with_reducible refine Kd.C_drew ?_))); (case side2 => exact (Kd.R_reads' HO33.out).2.1); (case side3 => repeat (first | exact (Kd.R_reads' HO67.out).2.2 | (with_reducible refine Kd.C_alloc ?_ _) | (with_reducible refine Kd.C_drewN ?_ _) | (with_reducible refine Kd.C_drew ?_))); (case side4 => exact (Kd.R_reads' HO67.out).2.1); rintro e w' ⟨rfl, ⟨nd, rfl⟩⟩; obtain ⟨hcz56_0, hcz56_1, hcz56_2, hcz56_3, hcz56_4, hcz56_5, hcz56_6, hcz56_7, hfz56_0, hfz56_1, hfz56_2, hfz56_3, hfz56_4, hfz56_5, hfz56_6, hfz56_7⟩ := bc8 BK60) | ((with_reducible refine gate_dst (N := 35) rfl ?_); (try (refine gate_guard (by rfl) ?_; dsimp only)); refine Kd.R_lit (Kd.int .u32) _ 22 ?hg (N := 35) ?hd (xs := ([458759] : List Int)) (inner := [.int .u32 458759]) (ok := fun _ => True) (okp := fun _ => True) ?hr ?hp (fun _ hk => hk) trivial (Below.refl _ _) (Nat.le_refl _) (by simp) ?_; (case hd => rfl); (case hg => rfl); (case hr => first | (go_simp; done) | (go_simp; rfl)); (case hp => exact (Reps.one (show Kd.M (Kd.int .u32) _ _ _ 458759 [.int .u32 458759] from rfl) (Reps.none _ _))); intro v70 w57 ho58 hb hg_ hnew_; clear hg_ hnew_; (first | rw [← Ny69.out] at ho58 | (simp only [Int.reduceToNat] at ho58; rw [← Ny69.out] at ho58)); have HO71 := Aside0.mk (Kd.R_lower (Kd.R_new' (Kd.R_new' (Kd.R_new' (Kd.R_new' (Kd.R_new' (Kd.R_new' (Kd.R_new' (Kd.R_new' (Kd.R_new' (Kd.R_new' (Kd.R_new' (Kd.R_new' (Kd.R_new' ho58 (Kd.R_lt (rW HO3))) (Kd.R_lt (rW HO6))) (Kd.R_lt (rW HO11))) (Kd.R_lt (rW HO14))) (Kd.R_lt (rW HO22))) (Kd.R_lt (rW HO25))) (Kd.R_lt (rW HO30))) (Kd.R_lt (rW HO33))) (Kd.R_lt (rW HO47))) (Kd.R_lt (rW HO52))) (Kd.R_lt (rW HO55))) (Kd.R_lt (rW HO63))) (Kd.R_lt (rW HO67))) (below_size (hbW HB))); replace HO3 := Aside0.mk (Kd.R_elder' (rW HO3) (Kd.R_base ho58) hb); replace HO6 := Aside0.mk (Kd.R_elder' (rW HO6) (Kd.R_base ho58) hb); replace HO11 := Aside0.mk (Kd.R_elder' (rW HO11) (Kd.R_base ho58) hb); replace HO14 := Aside0.mk (Kd.R_elder' (rW HO14) (Kd.R_base ho58) hb); replace HO22 := Aside0.mk (Kd.R_elder' (rW HO22) (Kd.R_base ho58) hb); replace HO25 := Aside0.mk (Kd.R_elder' (rW HO25) (Kd.R_base ho58) hb); replace HO30 := Aside0.mk (Kd.R_elder' (rW HO30) (Kd.R_base ho58) hb); replace HO33 := Aside0.mk (Kd.R_elder' (rW HO33) (Kd.R_base ho58) hb); replace HO44 := Aside0.mk (Kd.N_elder' (by (with_reducible repeat (first | apply Kd.N_alloc | apply Kd.N_drewN | apply Kd.N_drew)); exact HO44.out) (Kd.R_base ho58) hb); replace HO47 := Aside0.mk (Kd.R_elder' (rW HO47) (Kd.R_base ho58) hb); replace HO52 := Aside0.mk (Kd.R_elder' (rW HO52) (Kd.R_base ho58) hb); replace HO55 := Aside0.mk (Kd.R_elder' (rW HO55) (Kd.R_base ho58) hb); replace HO63 := Aside0.mk (Kd.R_elder' (rW HO63) (Kd.R_base ho58) hb); replace HO67 := Aside0.mk (Kd.R_elder' (rW HO67) (Kd.R_base ho58) hb); replace BK19 := bkB BK19 hb; replace BK38 := bkB BK38 hb; replace BK60 := bkB BK60 hb; replace HB := hbS HB hb; clear hb ho58; obtain ⟨Ao59, co59, eo59⟩ := Kd.R_slice HO71.out; subst eo59) | (go_at_call 20; (with_reducible refine (q13z.calls k _ _ t53 _ _ y69 t72 _ ?side1 ?side2 ?side3 ?side4 A8.out).mono ?_); (case side1 => repeat (first | exact (Kd.R_reads' HO55.out).2.2 | (with_reducible refine Kd.C_alloc ?_ _) | (with_reducible refine Kd.C_drewN ?_ _) | (with_reducible refine Kd.C_drew ?_))); (case side2 => exact (Kd.R_reads' HO55.out).2.1); (case side3 => repeat (first | exact (Kd.R_reads' HO71.out).2.2 | (with_reducible refine Kd.C_alloc ?_ _) | (with_reducible refine Kd.C_drewN ?_ _) | (with_reducible refine Kd.C_drew ?_))); (case side4 => exact (Kd.R_reads' HO71.out).2.1); rintro e w' ⟨rfl, ⟨nd, rfl⟩⟩))
   go_ret
   exact ⟨by first | rfl | (simp [errW_none, errW_some] <;> rfl) | (simp [*, errW_none, errW_some] <;> rfl), hbW HB⟩
  ·
   replace c7 := Bool.eq_false_iff.mpr c7
   subst c7
   have H1 : (some false) = some r := by rw [if_neg (show ¬ (false = true) by decide)] at H; exact H
   clear H
   have H := H1
   clear H1
   obtain rfl := Option.some.inj H
   go_wp2_with (first | ((with_reducible refine gate_dst (N := 24) rfl ?_); (try (refine gate_guard (by rfl) ?_; dsimp only)); refine Kd.R_lit (Kd.int .u32) _ 22 ?hg (N := 24) ?hd (xs := ([1, 2, 3] : List Int)) (inner := [.int .u32 1, .int .u32 2, .int .u32 3]) (ok := fun _ => True) (okp := fun _ => True) ?hr ?hp (fun _ hk => hk) trivial (Below.refl _ _) (Nat.le_refl _) (by simp) ?_; (case hd => rfl); (case hg => rfl); (case hr => first | (go_simp; done) | (go_simp; rfl)); (case hp => exact (Reps.one (show Kd.M (Kd.int .u32) _ _ _ 1 [.int .u32 1] from rfl) (Reps.one (show Kd.M (Kd.int .u32) _ _ _ 2 [.int .u32 2] from rfl) (Reps.one (show Kd.M (Kd.int .u32) _ _ _ 3 [.int .u32 3] from rfl) (Reps.none _ _))))); intro v62 w100 ho101 hb hg_ hnew_; clear hg_ hnew_; (first | rw [← Ny61.out] at ho101 | (simp only [Int.reduceToNat] at ho101; rw [← Ny61.out] at ho101)); have HO63 := Aside0.mk (Kd.R_lower (Kd.R_new' (Kd.R_new' (Kd.R_new' (Kd.R_new' (Kd.R_new' (Kd.R_new' (Kd.R_new' (Kd.R_new' (Kd.R_new' (Kd.R_new' (Kd.R_new' ho101 (Kd.R_lt (rW HO3))) (Kd.R_lt (rW HO6))) (Kd.R_lt (rW HO11))) (Kd.R_lt (rW HO14))) (Kd.R_lt (rW HO22))) (Kd.R_lt (rW HO25))) (Kd.R_lt (rW HO30))) (Kd.R_lt (rW HO33))) (Kd.R_lt (rW HO47))) (Kd.R_lt (rW HO52))) (Kd.R_lt (rW HO55))) (below_size (hbW HB))); replace HO3 := Aside0.mk (Kd.R_elder' (rW HO3) (Kd.R_base ho101) hb); replace HO6 := Aside0.mk (Kd.R_elder' (rW HO6) (Kd.R_base ho101) hb); replace HO11 := Aside0.mk (Kd.R_elder' (rW HO11) (Kd.R_base ho101) hb); replace HO14 := Aside0.mk (Kd.R_elder' (rW HO14) (Kd.R_base ho101) hb); replace HO22 := Aside0.mk (Kd.R_elder' (rW HO22) (Kd.R_base ho101) hb); replace HO25 := Aside0.mk (Kd.R_elder' (rW HO25) (Kd.R_base ho101) hb); replace HO30 := Aside0.mk (Kd.R_elder' (rW HO30) (Kd.R_base ho101) hb); replace HO33 := Aside0.mk (Kd.R_elder' (rW HO33) (Kd.R_base ho101) hb); replace HO44 := Aside0.mk (Kd.N_elder' (by (with_reducible repeat (first | apply Kd.N_alloc | apply Kd.N_drewN | apply Kd.N_drew)); exact (Kd.N_mono (Kd.N_far (p := ⟨gb60, 7, none⟩) (Kd.N_far (p := ⟨gb60, 6, none⟩) (Kd.N_far (p := ⟨gb60, 5, none⟩) (Kd.N_far (p := ⟨gb60, 4, none⟩) (Kd.N_far (p := ⟨gb60, 3, none⟩) (Kd.N_far (p := ⟨gb60, 2, none⟩) (Kd.N_far (p := ⟨gb60, 1, none⟩) (Kd.N_far (p := ⟨gb60, 0, none⟩) (Kd.N_mono HO44.out (fun k_ hk => (⟨hk, hk.2⟩ : _ ∧ k_ ≠ gb60))) (fun _ hk => hk.2) (.int .u32 t48)) (fun _ hk => hk.2) (.int .i64 t49)) (fun _ hk => hk.2) (.slice Ao46 t50.length co46)) (fun _ hk => hk.2) (.slice Ao47 t53.length co47)) (fun _ hk => hk.2) (.int .u32 t56)) (fun _ hk => hk.2) (.int .u32 t57)) (fun _ hk => hk.2) (.int .i64 t58)) (fun _ hk => hk.2) (.int .u32 t59)) (fun _ h_ => h_.1))) (Kd.R_base ho101) hb); replace HO47 := Aside0.mk (Kd.R_elder' (rW HO47) (Kd.R_base ho101) hb); replace HO52 := Aside0.mk (Kd.R_elder' (rW HO52) (Kd.R_base ho101) hb); replace HO55 := Aside0.mk (Kd.R_elder' (rW HO55) (Kd.R_base ho101) hb); replace BK19 := bvB BK19 hb; replace BK38 := bvB BK38 hb; replace BK60 := Aside0.mk (blk_below (g := gb60) (o := .cells #[.int .u32 t48, .int .i64 t49, .slice Ao46 t50.length co46, .slice Ao47 t53.length co47, .int .u32 t56, .int .u32 t57, .int .i64 t58, .int .u32 t59] 30 (0, 0)) (bp8 BK60) hb); replace HB := hbS HB hb; clear hb ho101; obtain ⟨Ao102, co102, eo102⟩ := Kd.R_slice HO63.out; subst eo102) | ((with_reducible refine gate_callee (f := 20) rfl ?_); refine goesL_ (some 25) rfl rfl Try.func20 (by kernel_rfl) rfl #[.slice Ao18 t9.length co18, .slice Ao102 y61.length co102] rfl (by (try simp only [List.map_toArray, List.map_cons, List.map_nil]); first | done | rfl | (simp only [List.length_drop, List.length_take]; rfl)) ?_; (with_reducible refine (q13z.calls k _ _ t9 _ _ y61 true _ ?side1 ?side2 ?side3 ?side4 A4.out).mono ?_); (case side1 => repeat (first | exact (Kd.R_reads' HO11.out).2.2 | (with_reducible refine Kd.C_alloc ?_ _) | (with_reducible refine Kd.C_drewN ?_ _) | (with_reducible refine Kd.C_drew ?_))); (case side2 => exact (Kd.R_reads' HO11.out).2.1); (case side3 => repeat (first | exact (Kd.R_reads' HO63.out).2.2 | (with_reducible refine Kd.C_alloc ?_ _) | (with_reducible refine Kd.C_drewN ?_ _) | (with_reducible refine Kd.C_drew ?_))); (case side4 => exact (Kd.R_reads' HO63.out).2.1); rintro e w' ⟨rfl, ⟨nd, rfl⟩⟩; refine ⟨_, rfl, ?_⟩; obtain ⟨hcz103_0, hcz103_1, hcz103_2, hcz103_3, hcz103_4, hcz103_5, hcz103_6, hcz103_7, hfz103_0, hfz103_1, hfz103_2, hfz103_3, hfz103_4, hfz103_5, hfz103_6, hfz103_7⟩ := bc8 BK38) | ((with_reducible refine gate_dst (N := 29) rfl ?_); (try (refine gate_guard (by rfl) ?_; dsimp only)); refine Kd.R_lit (Kd.int .u32) _ 22 ?hg (N := 29) ?hd (xs := ([3, 4, 5] : List Int)) (inner := [.int .u32 3, .int .u32 4, .int .u32 5]) (ok := fun _ => True) (okp := fun _ => True) ?hr ?hp (fun _ hk => hk) trivial (Below.refl _ _) (Nat.le_refl _) (by simp) ?_; (case hd => rfl); (case hg => rfl); (case hr => first | (go_simp; done) | (go_simp; rfl)); (case hp => exact (Reps.one (show Kd.M (Kd.int .u32) _ _ _ 3 [.int .u32 3] from rfl) (Reps.one (show Kd.M (Kd.int .u32) _ _ _ 4 [.int .u32 4] from rfl) (Reps.one (show Kd.M (Kd.int .u32) _ _ _ 5 [.int .u32 5] from rfl) (Reps.none _ _))))); intro v66 w104 ho105 hb hg_ hnew_; clear hg_ hnew_; (first | rw [← Ny65.out] at ho105 | (simp only [Int.reduceToNat] at ho105; rw [← Ny65.out] at ho105)); have HO67 := Aside0.mk (Kd.R_lower (Kd.R_new' (Kd.R_new' (Kd.R_new' (Kd.R_new' (Kd.R_new' (Kd.R_new' (Kd.R_new' (Kd.R_new' (Kd.R_new' (Kd.R_new' (Kd.R_new' (Kd.R_new' ho105 (Kd.R_lt (rW HO3))) (Kd.R_lt (rW HO6))) (Kd.R_lt (rW HO11))) (Kd.R_lt (rW HO14))) (Kd.R_lt (rW HO22))) (Kd.R_lt (rW HO25))) (Kd.R_lt (rW HO30))) (Kd.R_lt (rW HO33))) (Kd.R_lt (rW HO47))) (Kd.R_lt (rW HO52))) (Kd.R_lt (rW HO55))) (Kd.R_lt (rW HO63))) (below_size (hbW HB))); replace HO3 := Aside0.mk (Kd.R_elder' (rW HO3) (Kd.R_base ho105) hb); replace HO6 := Aside0.mk (Kd.R_elder' (rW HO6) (Kd.R_base ho105) hb); replace HO11 := Aside0.mk (Kd.R_elder' (rW HO11) (Kd.R_base ho105) hb); replace HO14 := Aside0.mk (Kd.R_elder' (rW HO14) (Kd.R_base ho105) hb); replace HO22 := Aside0.mk (Kd.R_elder' (rW HO22) (Kd.R_base ho105) hb); replace HO25 := Aside0.mk (Kd.R_elder' (rW HO25) (Kd.R_base ho105) hb); replace HO30 := Aside0.mk (Kd.R_elder' (rW HO30) (Kd.R_base ho105) hb); replace HO33 := Aside0.mk (Kd.R_elder' (rW HO33) (Kd.R_base ho105) hb); replace HO44 := Aside0.mk (Kd.N_elder' (by (with_reducible repeat (first | apply Kd.N_alloc | apply Kd.N_drewN | apply Kd.N_drew)); exact HO44.out) (Kd.R_base ho105) hb); replace HO47 := Aside0.mk (Kd.R_elder' (rW HO47) (Kd.R_base ho105) hb); replace HO52 := Aside0.mk (Kd.R_elder' (rW HO52) (Kd.R_base ho105) hb); replace HO55 := Aside0.mk (Kd.R_elder' (rW HO55) (Kd.R_base ho105) hb); replace HO63 := Aside0.mk (Kd.R_elder' (rW HO63) (Kd.R_base ho105) hb); replace BK19 := bkB BK19 hb; replace BK38 := bkB BK38 hb; replace BK60 := bkB BK60 hb; replace HB := hbS HB hb; clear hb ho105; obtain ⟨Ao106, co106, eo106⟩ := Kd.R_slice HO67.out; subst eo106) | (go_at_call 20; (with_reducible refine (q13z.calls k _ _ t31 _ _ y65 false _ ?side1 ?side2 ?side3 ?side4 A6.out).mono ?_); (case side1 => repeat (first | exact (Kd.R_reads' HO33.out).2.2 | (with_reducible refine Kd.C_alloc ?_ _) | (with_reducible refine Kd.C_drewN ?_ _) | (with_reducible refine Kd.C_drew ?_))); (case side2 => exact (Kd.R_reads' HO33.out).2.1); (case side3 => repeat (first | exact (Kd.R_reads' HO67.out).2.2 | (with_reducible refine Kd.C_alloc ?_ _) | (with_reducible refine Kd.C_drewN ?_ _) | (with_reducible refine Kd.C_drew ?_))); (case side4 => exact (Kd.R_reads' HO67.out).2.1); rintro e w' ⟨rfl, ⟨nd, rfl⟩⟩))
   go_ret
   exact ⟨by first | rfl | (simp [errW_none, errW_some] <;> rfl) | (simp [*, errW_none, errW_some] <;> rfl), hbW HB⟩
 ·
  replace c5 := Bool.eq_false_iff.mpr c5
  subst c5
  have H1 : (some false) = some r := by rw [if_neg (show ¬ (false = true) by decide)] at H; exact H
  clear H
  have H := H1
  clear H1
  obtain rfl := Option.some.inj H
  go_wp2_with (first | ((with_reducible refine gate_dst (N := 24) rfl ?_); (try (refine gate_guard (by rfl) ?_; dsimp only)); refine Kd.R_lit (Kd.int .u32) _ 22 ?hg (N := 24) ?hd (xs := ([1, 2, 3] : List Int)) (inner := [.int .u32 1, .int .u32 2, .int .u32 3]) (ok := fun _ => True) (okp := fun _ => True) ?hr ?hp (fun _ hk => hk) trivial (Below.refl _ _) (Nat.le_refl _) (by simp) ?_; (case hd => rfl); (case hg => rfl); (case hr => first | (go_simp; done) | (go_simp; rfl)); (case hp => exact (Reps.one (show Kd.M (Kd.int .u32) _ _ _ 1 [.int .u32 1] from rfl) (Reps.one (show Kd.M (Kd.int .u32) _ _ _ 2 [.int .u32 2] from rfl) (Reps.one (show Kd.M (Kd.int .u32) _ _ _ 3 [.int .u32 3] from rfl) (Reps.none _ _))))); intro v62 w147 ho148 hb hg_ hnew_; clear hg_ hnew_; (first | rw [← Ny61.out] at ho148 | (simp only [Int.reduceToNat] at ho148; rw [← Ny61.out] at ho148)); have HO63 := Aside0.mk (Kd.R_lower (Kd.R_new' (Kd.R_new' (Kd.R_new' (Kd.R_new' (Kd.R_new' (Kd.R_new' (Kd.R_new' (Kd.R_new' (Kd.R_new' (Kd.R_new' (Kd.R_new' ho148 (Kd.R_lt (rW HO3))) (Kd.R_lt (rW HO6))) (Kd.R_lt (rW HO11))) (Kd.R_lt (rW HO14))) (Kd.R_lt (rW HO22))) (Kd.R_lt (rW HO25))) (Kd.R_lt (rW HO30))) (Kd.R_lt (rW HO33))) (Kd.R_lt (rW HO47))) (Kd.R_lt (rW HO52))) (Kd.R_lt (rW HO55))) (below_size (hbW HB))); replace HO3 := Aside0.mk (Kd.R_elder' (rW HO3) (Kd.R_base ho148) hb); replace HO6 := Aside0.mk (Kd.R_elder' (rW HO6) (Kd.R_base ho148) hb); replace HO11 := Aside0.mk (Kd.R_elder' (rW HO11) (Kd.R_base ho148) hb); replace HO14 := Aside0.mk (Kd.R_elder' (rW HO14) (Kd.R_base ho148) hb); replace HO22 := Aside0.mk (Kd.R_elder' (rW HO22) (Kd.R_base ho148) hb); replace HO25 := Aside0.mk (Kd.R_elder' (rW HO25) (Kd.R_base ho148) hb); replace HO30 := Aside0.mk (Kd.R_elder' (rW HO30) (Kd.R_base ho148) hb); replace HO33 := Aside0.mk (Kd.R_elder' (rW HO33) (Kd.R_base ho148) hb); replace HO44 := Aside0.mk (Kd.N_elder' (by (with_reducible repeat (first | apply Kd.N_alloc | apply Kd.N_drewN | apply Kd.N_drew)); exact (Kd.N_mono (Kd.N_far (p := ⟨gb60, 7, none⟩) (Kd.N_far (p := ⟨gb60, 6, none⟩) (Kd.N_far (p := ⟨gb60, 5, none⟩) (Kd.N_far (p := ⟨gb60, 4, none⟩) (Kd.N_far (p := ⟨gb60, 3, none⟩) (Kd.N_far (p := ⟨gb60, 2, none⟩) (Kd.N_far (p := ⟨gb60, 1, none⟩) (Kd.N_far (p := ⟨gb60, 0, none⟩) (Kd.N_mono HO44.out (fun k_ hk => (⟨hk, hk.2⟩ : _ ∧ k_ ≠ gb60))) (fun _ hk => hk.2) (.int .u32 t48)) (fun _ hk => hk.2) (.int .i64 t49)) (fun _ hk => hk.2) (.slice Ao46 t50.length co46)) (fun _ hk => hk.2) (.slice Ao47 t53.length co47)) (fun _ hk => hk.2) (.int .u32 t56)) (fun _ hk => hk.2) (.int .u32 t57)) (fun _ hk => hk.2) (.int .i64 t58)) (fun _ hk => hk.2) (.int .u32 t59)) (fun _ h_ => h_.1))) (Kd.R_base ho148) hb); replace HO47 := Aside0.mk (Kd.R_elder' (rW HO47) (Kd.R_base ho148) hb); replace HO52 := Aside0.mk (Kd.R_elder' (rW HO52) (Kd.R_base ho148) hb); replace HO55 := Aside0.mk (Kd.R_elder' (rW HO55) (Kd.R_base ho148) hb); replace BK19 := bvB BK19 hb; replace BK38 := bvB BK38 hb; replace BK60 := Aside0.mk (blk_below (g := gb60) (o := .cells #[.int .u32 t48, .int .i64 t49, .slice Ao46 t50.length co46, .slice Ao47 t53.length co47, .int .u32 t56, .int .u32 t57, .int .i64 t58, .int .u32 t59] 30 (0, 0)) (bp8 BK60) hb); replace HB := hbS HB hb; clear hb ho148; obtain ⟨Ao149, co149, eo149⟩ := Kd.R_slice HO63.out; subst eo149) | ((with_reducible refine gate_callee (f := 20) rfl ?_); refine goesL_ (some 25) rfl rfl Try.func20 (by kernel_rfl) rfl #[.slice Ao18 t9.length co18, .slice Ao149 y61.length co149] rfl (by (try simp only [List.map_toArray, List.map_cons, List.map_nil]); first | done | rfl | (simp only [List.length_drop, List.length_take]; rfl)) ?_; (with_reducible refine (q13z.calls k _ _ t9 _ _ y61 false _ ?side1 ?side2 ?side3 ?side4 A4.out).mono ?_); (case side1 => repeat (first | exact (Kd.R_reads' HO11.out).2.2 | (with_reducible refine Kd.C_alloc ?_ _) | (with_reducible refine Kd.C_drewN ?_ _) | (with_reducible refine Kd.C_drew ?_))); (case side2 => exact (Kd.R_reads' HO11.out).2.1); (case side3 => repeat (first | exact (Kd.R_reads' HO63.out).2.2 | (with_reducible refine Kd.C_alloc ?_ _) | (with_reducible refine Kd.C_drewN ?_ _) | (with_reducible refine Kd.C_drew ?_))); (case side4 => exact (Kd.R_reads' HO63.out).2.1); rintro e w' ⟨rfl, ⟨nd, rfl⟩⟩; refine ⟨_, rfl, ?_⟩))
  go_ret
  exact ⟨by first | rfl | (simp [errW_none, errW_some] <;> rfl) | (simp [*, errW_none, errW_some] <;> rfl), hbW HB⟩

end Go.Proofs.Ytgelpccjdndfoaa.P

namespace Go.Proofs.Ytgelpccjdndfoaa.P
open Go.RowKit Go.Proofs.YtgelpccjdndfoaaW.PrintWords Go.Proofs.YtgelpccjdndfoaaW.PrintLast Go.Proofs.YtgelpccjdndfoaaW.PrintMore
attribute [local go_sem] max2_int min2_int max_two min_two max_three min_three max_four min_four
set_option linter.unusedVariables false
set_option linter.unusedSimpArgs false

/-! ### dragomanref05_Size: function 40 -/
mutual
def q15z.l0 : Nat → Int → Int → List (S74) → Int → Int → Option (Int × Int)
 | 0, _, _, _, _, _ => none
 | k + 1, x4, x5, x11, x12, x13 => if x13 < x12 then (if 0 ≤ x13 then (if x13 < (x11.length : Int) then ((q15z.f k ((rd_T74 x11 x13).f0) ((rd_T74 x11 x13).f1) ((rd_T74 x11 x13).f2)).bind fun bt4 => (q15z.l0 k (mn (wrap64 (x4 + bt4.1)) 1000000) (mx x5 bt4.2) x11 x12 (wrap64 (x13 + 1)))) else (none)) else (none)) else (some (x4, wrap64 (x5 + 1)))
def q15z.f : Nat → Int → List (S152) → List (S74) → Option (Int × Int)
 | 0, _, _, _ => none
 | k + 1, a0_0, l0_1, l0_2 => q15z.l0 k 1 0 l0_2 (l0_2.length : Int) 0
end
theorem q15z.mono_l : ∀ k, (∀ y0 y1 y2, LeO (q15z.f k y0 y1 y2) (q15z.f (k + 1) y0 y1 y2)) ∧ (∀ y0 y1 y2 y3 y4, LeO (q15z.l0 k y0 y1 y2 y3 y4) (q15z.l0 (k + 1) y0 y1 y2 y3 y4))
 | 0 => ⟨fun _ _ _ r h => by simp [q15z.f] at h, fun _ _ _ _ _ r h => by simp [q15z.l0] at h⟩
 | k + 1 => by
  obtain ⟨ih0, ih1⟩ := q15z.mono_l k
  refine ⟨?_, ?_⟩
  ·
   intro y0 y1 y2
   unfold q15z.f
   repeat' first
   | (with_reducible exact ih0 _ _ _)
   | (with_reducible exact ih1 _ _ _ _ _)
   | (with_reducible exact LeO.refl _)
   | (with_reducible exact LeO.none _)
   | (with_reducible refine LeO.ite ?_ ?_)
   | (with_reducible refine LeO.bind ?_ (fun _ => ?_))
   | exact ih0 _ _ _
   | exact ih1 _ _ _ _ _
   | exact LeO.none _
   | refine LeO.ite ?_ ?_
   | refine LeO.bind ?_ (fun _ => ?_)
  ·
   intro y0 y1 y2 y3 y4
   unfold q15z.l0
   repeat' first
   | (with_reducible exact ih0 _ _ _)
   | (with_reducible exact ih1 _ _ _ _ _)
   | (with_reducible exact LeO.refl _)
   | (with_reducible exact LeO.none _)
   | (with_reducible refine LeO.ite ?_ ?_)
   | (with_reducible refine LeO.bind ?_ (fun _ => ?_))
   | exact ih0 _ _ _
   | exact ih1 _ _ _ _ _
   | exact LeO.none _
   | refine LeO.ite ?_ ?_
   | refine LeO.bind ?_ (fun _ => ?_)
theorem q15z.mono : ∀ a0 a1 a2 k, LeO (q15z.f k a0 a1 a2) (q15z.f (k + 1) a0 a1 a2) := by
 intro a0 a1 a2 k
 obtain ⟨ih0, ih1⟩ := q15z.mono_l k
 exact ih0 a0 a1 a2
set_option maxHeartbeats 8000000 in
set_option maxRecDepth 100000 in
theorem q15z.calls (k : Nat) : ∀ (a0_0 : Int) (A0_1 : Option Addr) (c0_1 : Nat) (l0_1 : List (S152)) (A0_2 : Option Addr) (c0_2 : Nat) (l0_2 : List (S74)) (r1 : Int) (r2 : Int) (w : World) (hr0_1 : Kd.C k152 w A0_1 l0_1.length l0_1) (hc0_1 : l0_1.length ≤ c0_1) (hr0_2 : Kd.C k74 w A0_2 l0_2.length l0_2) (hc0_2 : l0_2.length ≤ c0_2) (h : q15z.f k a0_0 l0_1 l0_2 = some (r1, r2)),
  Calls Try.prog 40 #[.agg #[.int .i64 a0_0, .slice A0_1 l0_1.length c0_1, .slice A0_2 l0_2.length c0_2]] w fun e w' => e = .returned (.tuple #[.int .i64 r1, .int .i64 r2]) ∧ Below w.heap.size w w' := by
 induction k using Nat.strongRecOn with
 | _ k ih =>
 intro a0_0 A0_1 c0_1 l0_1 A0_2 c0_2 l0_2 r1 r2 w hr0_1 hc0_1 hr0_2 hc0_2 h
 cases k with
 | zero => exact absurd h (by simp [q15z.f])
 | succ k =>
 simp only [q15z.f] at h
 have hu74 := Try.underlying74
 have HR0_1 := Aside0.mk hr0_1
 have HC0_1 := Aside0.mk hc0_1
 clear hr0_1 hc0_1
 have HR0_2 := Aside0.mk hr0_2
 have HC0_2 := Aside0.mk hc0_2
 clear hr0_2 hc0_2
 have HB := Aside0.mk (Below.refl w.heap.size w)
 have H : (q15z.l0 k 1 0 l0_2 (l0_2.length : Int) 0) = some (r1, r2) := h
 clear h
 have H' := Aside0.mk H
 clear H
 go_enter Try.func40, Try.ntmps40
 go_wp2_with (first | ((with_reducible refine gate_dst (N := 1) rfl ?_); refine box_event ?hg (N := 1) ?hd (cs := #[.int .i64 a0_0, .slice A0_1 l0_1.length c0_1, .slice A0_2 l0_2.length c0_2]) (t := 74) ?hr ?_; (case hd => rfl); (case hg => rfl); (case hr => first | (go_simp; done) | (go_simp; rfl)); intro gb1 hg w2 hbox hb; have BK1 := Aside0.mk (hbox); have GW1 := Aside0.mk ((by rw [hg]; exact (below_size (hbW HB)) : w.heap.size ≤ gb1)); have GE1 := Aside0.mk ((by rw [hg]; exact (below_size (hbW HB)) : w.heap.size ≤ gb1)); replace HB := hbS HB hb; clear hb hbox hg; obtain ⟨hcz3_0, hcz3_1, hcz3_2, hfz3_0, hfz3_1, hfz3_2⟩ := bc3 BK1))
 go_loopg [4, 5, 13] k (fun kq v4 v5 v13 w' => ∃ (x4_1 : Int) (x5_1 : Int) (x13_1 : Int), v4 = .int .i64 x4_1 ∧ v5 = .int .i64 x5_1 ∧ v13 = .int .i64 x13_1 ∧ Aside0 (q15z.l0 kq x4_1 x5_1 l0_2 (l0_2.length : Int) x13_1 = some (r1, r2)) ∧ Aside0 (kq ≤ k) ∧ Aside0 (w'.heap[gb1]? = some (.cells #[.int .i64 a0_0, (.slice A0_1 l0_1.length c0_1), (.slice A0_2 l0_2.length c0_2)] 74 (0, 0))) ∧ Aside0 (Below w.heap.size w w'))
 case atStart => exact ⟨(1), (0), (0), (by first | rfl | (simp; done) | (simp [*]; done)), (by first | rfl | (simp; done) | (simp [*]; done)), (by first | rfl | (simp; done) | (simp [*]; done)), H', ⟨Nat.le_refl _⟩, ⟨by (with_reducible repeat (first | refine blk_drewN ?_ _ | refine blk_drew ?_ | refine blk_alloc ?_ _)); exact BK1.out⟩, ⟨hbW HB⟩⟩
 case round =>
  clear H'
  try clear p2
  try clear hcz3_0
  try clear hcz3_1
  try clear hcz3_2
  try clear hfz3_0
  try clear hfz3_1
  try clear hfz3_2
  obtain ⟨x4_1, x5_1, x13_1, rfl, rfl, rfl, HA, HK1, BK1, HB⟩ := hrel
  cases gk with
  | zero => exact absurd HA.out (by simp [q15z.l0])
  | succ k1 =>
   have H := HA.out
   clear HA
   simp only [q15z.l0] at H
   by_cases c4 : x13_1 < (l0_2.length : Int)
   ·
    rw [if_pos c4] at H
    have c4b0 : decide (x13_1 < (l0_2.length : Int)) = true := decide_eq_true c4
    clear c4
    by_cases c5 : 0 ≤ x13_1
    ·
     rw [if_pos c5] at H
     have c5b0 : decide (0 ≤ x13_1) = true := decide_eq_true c5
     clear c5
     by_cases c6 : x13_1 < (l0_2.length : Int)
     ·
      rw [if_pos c6] at H
      have c6b0 : decide (x13_1 < (l0_2.length : Int)) = true := decide_eq_true c6
      clear c6
      replace H := Option.bind_eq_some_iff.mp H
      obtain ⟨⟨t4, t5⟩, A70, H⟩ := H
      replace H : (q15z.l0 k1 (mn (wrap64 (x4_1 + t4)) 1000000) (mx x5_1 t5) l0_2 (l0_2.length : Int) (wrap64 (x13_1 + 1))) = some (r1, r2) := H
      have A7 := Aside0.mk A70
      clear A70
      obtain ⟨ji8, hji8⟩ : ∃ j_ : Int, (mn (wrap64 (x4_1 + t4)) 1000000) = j_ := ⟨_, rfl⟩
      replace H : (q15z.l0 k1 ji8 (mx x5_1 t5) l0_2 (l0_2.length : Int) (wrap64 (x13_1 + 1))) = some (r1, r2) := by first | (rw [hji8] at H; exact H) | (simp only [hji8] at H ⊢; exact H)
      (try rw [hji8] at A7)
      have hji8_ : (if 1000000 < (wrap64 (x4_1 + t4)) then 1000000 else (wrap64 (x4_1 + t4))) = ji8 := hji8
      obtain ⟨ji9, hji9⟩ : ∃ j_ : Int, (mx x5_1 t5) = j_ := ⟨_, rfl⟩
      replace H : (q15z.l0 k1 ji8 ji9 l0_2 (l0_2.length : Int) (wrap64 (x13_1 + 1))) = some (r1, r2) := by first | (rw [hji9] at H; exact H) | (simp only [hji9] at H ⊢; exact H)
      (try rw [hji9] at A7)
      have hji9_ : (if x5_1 < t5 then t5 else x5_1) = ji9 := hji9
      have H' := Aside0.mk H
      clear H
      have p2 : 0 ≤ (x13_1 : Int) := of_decide_eq_true (by first | (with_reducible assumption) | assumption)
      have q2 : x13_1 < (l0_2.length : Int) := of_decide_eq_true (by first | (with_reducible assumption) | assumption)
      obtain ⟨ad2, A2_1, c2_1, A2_2, c2_2, e2, hx2_0, hx2_1, hx2_2, hl2_1, hi2_1, hl2_2, hi2_2⟩ := at_T74 HR0_2.out x13_1 p2 q2
      cases e2
      replace hx2_0 := (HB.out.cell (World.block_lt_of_cell? w _ hx2_0)).trans hx2_0
      replace hx2_1 := (HB.out.cell (World.block_lt_of_cell? w _ hx2_1)).trans hx2_1
      replace hx2_2 := (HB.out.cell (World.block_lt_of_cell? w _ hx2_2)).trans hx2_2
      have HR2_1 := Aside0.mk hi2_1
      have HC2_1 := Aside0.mk hl2_1
      clear hi2_1 hl2_1
      have HR2_2 := Aside0.mk hi2_2
      have HC2_2 := Aside0.mk hl2_2
      clear hi2_2 hl2_2
      replace p2 := eq_true p2
      replace q2 := eq_true q2
      go_wp2_with (first | ((with_reducible refine gate_dst (N := 7) rfl ?_); refine box_event ?hg (N := 7) ?hd (cs := #[.int .i64 0, .slice none 0 0, .slice none 0 0]) (t := 74) ?hr ?_; (case hd => rfl); (case hg => rfl); (case hr => first | (go_simp; done) | (go_simp; rfl)); intro gb3 hg w10 hbox hb; have BK3 := Aside0.mk (hbox); have GW3 := Aside0.mk ((by rw [hg]; exact (below_size (hbW HB)) : w.heap.size ≤ gb3)); have GE3 := Aside0.mk ((by rw [hg]; exact (below_size (hbW HB)) : w.heap.size ≤ gb3)); have NB1_3 := Aside0.mk ((by rw [hg]; exact Nat.ne_of_lt (blk_lt (bkW BK1)) : gb1 ≠ gb3)); have NB3_1 := Aside0.mk ((by rw [hg]; exact Nat.ne_of_gt (blk_lt (bkW BK1)) : gb3 ≠ gb1)); replace BK1 := bkB BK1 hb; replace HB := hbS HB hb; clear hb hbox hg; have hnb11 := NB3_1.out; have hnc11 := NB1_3.out; obtain ⟨hcz12_0, hcz12_1, hcz12_2, hfz12_0, hfz12_1, hfz12_2⟩ := bc3 BK3) | ((with_reducible refine gate_callee (f := 40) rfl ?_); refine goesL_ (some 19) rfl rfl Try.func40 (by kernel_rfl) rfl #[.agg #[.int .i64 ((rd_T74 l0_2 x13_1).f0), .slice A2_1 ((rd_T74 l0_2 x13_1).f1).length c2_1, .slice A2_2 ((rd_T74 l0_2 x13_1).f2).length c2_2]] rfl (by (try simp only [List.map_toArray, List.map_cons, List.map_nil]); first | done | rfl | (simp only [List.length_drop, List.length_take]; rfl)) ?_; (with_reducible refine (ih k1 (by have := HK1.out; omega) ((rd_T74 l0_2 x13_1).f0) _ _ ((rd_T74 l0_2 x13_1).f1) _ _ ((rd_T74 l0_2 x13_1).f2) t4 t5 _ ?side1 ?side2 ?side3 ?side4 A7.out).mono ?_); (case side1 => exact Kd.C_below HR2_1.out (hbW HB)); (case side2 => exact HC2_1.out); (case side3 => exact Kd.C_below HR2_2.out (hbW HB)); (case side4 => exact HC2_2.out); rintro e w13 ⟨rfl, hb⟩; refine ⟨_, rfl, ?_⟩; replace BK1 := bvB BK1 hb; replace BK3 := Aside0.mk (blk_below (g := gb3) (o := .cells #[.int .i64 ((rd_T74 l0_2 x13_1).f0), .slice A2_1 ((rd_T74 l0_2 x13_1).f1).length c2_1, .slice A2_2 ((rd_T74 l0_2 x13_1).f2).length c2_2] 74 (0, 0)) (bp3 BK3) hb); replace HB := hbS HB hb; (try clear hb)))
      go_roundg k1
      case measure => have := HK1.out; omega
      case rel => exact ⟨(ji8), (ji9), (wrap64 (x13_1 + 1)), (by first | rfl | (simp; done) | (simp only [← hji8] <;> (first | rfl | simp)) | (simp [*]; done)), (by first | rfl | (simp; done) | (simp only [← hji9] <;> (first | rfl | simp)) | (simp [*]; done)), (by first | rfl | (simp; done) | (simp [*]; done)), H', ⟨by have := HK1.out; omega⟩, ⟨by (with_reducible repeat (first | refine blk_drewN ?_ _ | refine blk_drew ?_ | refine blk_alloc ?_ _)); exact BK1.out⟩, ⟨hbW HB⟩⟩
     ·
      rw [if_neg c6] at H
      exact absurd H (by simp)
    ·
     rw [if_neg c5] at H
     exact absurd H (by simp)
   ·
    rw [if_neg c4] at H
    have c4b0 : decide (x13_1 < (l0_2.length : Int)) = false := decide_eq_false c4
    clear c4
    simp only [Option.some.injEq, Prod.mk.injEq] at H
    obtain ⟨rfl, rfl⟩ := H
    go_wp2
    go_ret2
    exact ⟨by first | rfl | (simp [errW_none, errW_some] <;> rfl) | (simp [*, errW_none, errW_some] <;> rfl), hbW HB⟩

end Go.Proofs.Ytgelpccjdndfoaa.P

namespace Go.Proofs.Ytgelpccjdndfoaa.P
open Go.RowKit Go.Proofs.YtgelpccjdndfoaaW.PrintWords Go.Proofs.YtgelpccjdndfoaaW.PrintLast Go.Proofs.YtgelpccjdndfoaaW.PrintMore
attribute [local go_sem] max2_int min2_int max_two min_two max_three min_three max_four min_four
set_option linter.unusedVariables false
set_option linter.unusedSimpArgs false

/-! ### dragomanref11_Great: function 24 -/
mutual
def q16z.l0 : Nat → Int → List (S76) → Int → Int → Int → List (S92) → List (S76) → List (S53) → Int → Int → Option (Bool)
 | 0, _, _, _, _, _, _, _, _, _, _ => none
 | k + 1, x3, x11, x12, x13, x2000, x2001, x2002, x2003, x2004, x2005 => if x13 < x12 then (if 0 ≤ x13 then (if x13 < (x11.length : Int) then ((q15z.f k ((rd_T76 x11 x13).f1.f0) ((rd_T76 x11 x13).f1.f1) ((rd_T76 x11 x13).f1.f2)).bind fun bt4 => (if x13 > 100 then (some true) else (if (wrap64 (x3 + bt4.1)) > 3000 then (some true) else (q16z.l0 k (wrap64 (x3 + bt4.1)) x11 x12 (wrap64 (x13 + 1)) x2000 x2001 x2002 x2003 x2004 x2005)))) else (none)) else (none)) else (q16z.l1 k 0 x2003 (x2003.length : Int) 0 x2000 x2001 x2002 x2003 x2004 x2005)
def q16z.l1 : Nat → Int → List (S53) → Int → Int → Int → List (S92) → List (S76) → List (S53) → Int → Int → Option (Bool)
 | 0, _, _, _, _, _, _, _, _, _, _ => none
 | k + 1, x3, x35, x36, x37, x2000, x2001, x2002, x2003, x2004, x2005 => if x37 < x36 then (if 0 ≤ x37 then (if x37 < (x35.length : Int) then (if x37 > 100 then (some true) else (if (wrap64 (x3 + (mn (((rd_T53 x35 x37).f1).length : Int) 10000))) > 3000 then (some true) else (q16z.l1 k (wrap64 (x3 + (mn (((rd_T53 x35 x37).f1).length : Int) 10000))) x35 x36 (wrap64 (x37 + 1)) x2000 x2001 x2002 x2003 x2004 x2005))) else (none)) else (none)) else (some (decide ((x2001.length : Int) > 3000)))
end
def q16z.f (k : Nat) (a0_0 : Int) (l0_1 : List (S92)) (l0_2 : List (S76)) (l0_3 : List (S53)) (a0_4 : Int) (a0_5 : Int) : Option (Bool) := q16z.l0 k 0 l0_2 (l0_2.length : Int) 0 a0_0 l0_1 l0_2 l0_3 a0_4 a0_5
theorem q16z.mono_l : ∀ k, (∀ y0 y1 y2 y3 y4 y5 y6 y7 y8 y9, LeO (q16z.l0 k y0 y1 y2 y3 y4 y5 y6 y7 y8 y9) (q16z.l0 (k + 1) y0 y1 y2 y3 y4 y5 y6 y7 y8 y9)) ∧ (∀ y0 y1 y2 y3 y4 y5 y6 y7 y8 y9, LeO (q16z.l1 k y0 y1 y2 y3 y4 y5 y6 y7 y8 y9) (q16z.l1 (k + 1) y0 y1 y2 y3 y4 y5 y6 y7 y8 y9))
 | 0 => ⟨fun _ _ _ _ _ _ _ _ _ _ r h => by simp [q16z.l0] at h, fun _ _ _ _ _ _ _ _ _ _ r h => by simp [q16z.l1] at h⟩
 | k + 1 => by
  obtain ⟨ih0, ih1⟩ := q16z.mono_l k
  refine ⟨?_, ?_⟩
  ·
   intro y0 y1 y2 y3 y4 y5 y6 y7 y8 y9
   unfold q16z.l0
   repeat' first
   | (with_reducible exact ih0 _ _ _ _ _ _ _ _ _ _)
   | (with_reducible exact ih1 _ _ _ _ _ _ _ _ _ _)
   | (with_reducible exact q15z.mono _ _ _ _)
   | (with_reducible exact LeO.refl _)
   | (with_reducible exact LeO.none _)
   | (with_reducible refine LeO.ite ?_ ?_)
   | (with_reducible refine LeO.bind ?_ (fun _ => ?_))
   | exact ih0 _ _ _ _ _ _ _ _ _ _
   | exact ih1 _ _ _ _ _ _ _ _ _ _
   | exact q15z.mono _ _ _ _
   | exact LeO.none _
   | refine LeO.ite ?_ ?_
   | refine LeO.bind ?_ (fun _ => ?_)
  ·
   intro y0 y1 y2 y3 y4 y5 y6 y7 y8 y9
   unfold q16z.l1
   repeat' first
   | (with_reducible exact ih0 _ _ _ _ _ _ _ _ _ _)
   | (with_reducible exact ih1 _ _ _ _ _ _ _ _ _ _)
   | (with_reducible exact q15z.mono _ _ _ _)
   | (with_reducible exact LeO.refl _)
   | (with_reducible exact LeO.none _)
   | (with_reducible refine LeO.ite ?_ ?_)
   | (with_reducible refine LeO.bind ?_ (fun _ => ?_))
   | exact ih0 _ _ _ _ _ _ _ _ _ _
   | exact ih1 _ _ _ _ _ _ _ _ _ _
   | exact q15z.mono _ _ _ _
   | exact LeO.none _
   | refine LeO.ite ?_ ?_
   | refine LeO.bind ?_ (fun _ => ?_)
theorem q16z.mono : ∀ a0 a1 a2 a3 a4 a5 k, LeO (q16z.f k a0 a1 a2 a3 a4 a5) (q16z.f (k + 1) a0 a1 a2 a3 a4 a5) := by
 intro a0 a1 a2 a3 a4 a5 k
 obtain ⟨ih0, ih1⟩ := q16z.mono_l k
 unfold q16z.f
 repeat' first
   | (with_reducible exact ih0 _ _ _ _ _ _ _ _ _ _)
   | (with_reducible exact ih1 _ _ _ _ _ _ _ _ _ _)
   | (with_reducible exact q15z.mono _ _ _ _)
   | (with_reducible exact LeO.refl _)
   | (with_reducible exact LeO.none _)
   | (with_reducible refine LeO.ite ?_ ?_)
   | (with_reducible refine LeO.bind ?_ (fun _ => ?_))
   | exact ih0 _ _ _ _ _ _ _ _ _ _
   | exact ih1 _ _ _ _ _ _ _ _ _ _
   | exact q15z.mono _ _ _ _
   | exact LeO.none _
   | refine LeO.ite ?_ ?_
   | refine LeO.bind ?_ (fun _ => ?_)
set_option maxHeartbeats 8000000 in
set_option maxRecDepth 100000 in
theorem q16z.calls (k : Nat) (a0_0 : Int) (A0_1 : Option Addr) (c0_1 : Nat) (l0_1 : List (S92)) (A0_2 : Option Addr) (c0_2 : Nat) (l0_2 : List (S76)) (A0_3 : Option Addr) (c0_3 : Nat) (l0_3 : List (S53)) (a0_4 : Int) (a0_5 : Int) (r : Bool) (w : World) (hr0_1 : Kd.C k92 w A0_1 l0_1.length l0_1) (hc0_1 : l0_1.length ≤ c0_1) (hr0_2 : Kd.C k76 w A0_2 l0_2.length l0_2) (hc0_2 : l0_2.length ≤ c0_2) (hr0_3 : Kd.C k53 w A0_3 l0_3.length l0_3) (hc0_3 : l0_3.length ≤ c0_3) (h : q16z.f k a0_0 l0_1 l0_2 l0_3 a0_4 a0_5 = some r) :
  Calls Try.prog 24 #[.agg #[.int .i64 a0_0, .slice A0_1 l0_1.length c0_1, .slice A0_2 l0_2.length c0_2, .slice A0_3 l0_3.length c0_3, .int .u32 a0_4, .int .u32 a0_5]] w fun e w' => e = .returned (.bool r) ∧ Below w.heap.size w w' := by
 have hu58 := Try.underlying58
 have hu76 := Try.underlying76
 have hu74 := Try.underlying74
 have hu53 := Try.underlying53
 have HR0_1 := Aside0.mk hr0_1
 have HC0_1 := Aside0.mk hc0_1
 clear hr0_1 hc0_1
 have HR0_2 := Aside0.mk hr0_2
 have HC0_2 := Aside0.mk hc0_2
 clear hr0_2 hc0_2
 have HR0_3 := Aside0.mk hr0_3
 have HC0_3 := Aside0.mk hc0_3
 clear hr0_3 hc0_3
 have HB := Aside0.mk (Below.refl w.heap.size w)
 have H : (q16z.l0 k 0 l0_2 (l0_2.length : Int) 0 a0_0 l0_1 l0_2 l0_3 a0_4 a0_5) = some r := h
 clear h
 have H' := Aside0.mk H
 clear H
 go_enter Try.func24, Try.ntmps24
 go_wp2_with (first | ((with_reducible refine gate_dst (N := 1) rfl ?_); refine box_event ?hg (N := 1) ?hd (cs := #[.int .i64 a0_0, .slice A0_1 l0_1.length c0_1, .slice A0_2 l0_2.length c0_2, .slice A0_3 l0_3.length c0_3, .int .u32 a0_4, .int .u32 a0_5]) (t := 58) ?hr ?_; (case hd => rfl); (case hg => rfl); (case hr => first | (go_simp; done) | (go_simp; rfl)); intro gb1 hg w2 hbox hb; have BK1 := Aside0.mk (hbox); have GW1 := Aside0.mk ((by rw [hg]; exact (below_size (hbW HB)) : w.heap.size ≤ gb1)); have GE1 := Aside0.mk ((by rw [hg]; exact (below_size (hbW HB)) : w.heap.size ≤ gb1)); replace HB := hbS HB hb; clear hb hbox hg; obtain ⟨hcz3_0, hcz3_1, hcz3_2, hcz3_3, hcz3_4, hcz3_5, hfz3_0, hfz3_1, hfz3_2, hfz3_3, hfz3_4, hfz3_5⟩ := bc6 BK1))
 go_loopg [3, 13] k (fun kq v3 v13 w' => ∃ (x3_1 : Int) (x13_1 : Int), v3 = .int .i64 x3_1 ∧ v13 = .int .i64 x13_1 ∧ Aside0 (q16z.l0 kq x3_1 l0_2 (l0_2.length : Int) x13_1 a0_0 l0_1 l0_2 l0_3 a0_4 a0_5 = some r) ∧ Aside0 (kq ≤ k) ∧ Aside0 (w'.heap[gb1]? = some (.cells #[.int .i64 a0_0, (.slice A0_1 l0_1.length c0_1), (.slice A0_2 l0_2.length c0_2), (.slice A0_3 l0_3.length c0_3), .int .u32 a0_4, .int .u32 a0_5] 58 (0, 0))) ∧ Aside0 (Below w.heap.size w w'))
 case atStart => exact ⟨(0), (0), (by first | rfl | (simp; done) | (simp [*]; done)), (by first | rfl | (simp; done) | (simp [*]; done)), H', ⟨Nat.le_refl _⟩, ⟨by (with_reducible repeat (first | refine blk_drewN ?_ _ | refine blk_drew ?_ | refine blk_alloc ?_ _)); exact BK1.out⟩, ⟨hbW HB⟩⟩
 case round =>
  clear H'
  try clear c2
  try clear p2
  try clear hcz3_0
  try clear hcz3_1
  try clear hcz3_2
  try clear hcz3_3
  try clear hcz3_4
  try clear hcz3_5
  try clear hfz3_0
  try clear hfz3_1
  try clear hfz3_2
  try clear hfz3_3
  try clear hfz3_4
  try clear hfz3_5
  obtain ⟨x3_1, x13_1, rfl, rfl, HA, HK1, BK1, HB⟩ := hrel
  cases gk with
  | zero => exact absurd HA.out (by simp [q16z.l0])
  | succ k1 =>
   have H := HA.out
   clear HA
   simp only [q16z.l0] at H
   by_cases c4 : x13_1 < (l0_2.length : Int)
   ·
    rw [if_pos c4] at H
    have c4b0 : decide (x13_1 < (l0_2.length : Int)) = true := decide_eq_true c4
    clear c4
    by_cases c5 : 0 ≤ x13_1
    ·
     rw [if_pos c5] at H
     have c5b0 : decide (0 ≤ x13_1) = true := decide_eq_true c5
     clear c5
     by_cases c6 : x13_1 < (l0_2.length : Int)
     ·
      rw [if_pos c6] at H
      have c6b0 : decide (x13_1 < (l0_2.length : Int)) = true := decide_eq_true c6
      clear c6
      replace H := Option.bind_eq_some_iff.mp H
      obtain ⟨⟨t4, t5⟩, A70, H⟩ := H
      replace H : (if x13_1 > 100 then (some true) else (if (wrap64 (x3_1 + t4)) > 3000 then (some true) else (q16z.l0 k1 (wrap64 (x3_1 + t4)) l0_2 (l0_2.length : Int) (wrap64 (x13_1 + 1)) a0_0 l0_1 l0_2 l0_3 a0_4 a0_5))) = some r := H
      have A7 := Aside0.mk A70
      clear A70
      by_cases c8 : x13_1 > 100
      ·
       rw [if_pos c8] at H
       have c8b0 : decide (100 < x13_1) = true := decide_eq_true c8
       clear c8
       obtain rfl := Option.some.inj H
       have p2 : 0 ≤ (x13_1 : Int) := of_decide_eq_true (by first | (with_reducible assumption) | assumption)
       have q2 : x13_1 < (l0_2.length : Int) := of_decide_eq_true (by first | (with_reducible assumption) | assumption)
       obtain ⟨ad2, A2_2, c2_2, A2_3, c2_3, e2, hx2_0, hx2_1, hx2_2, hx2_3, hl2_2, hi2_2, hl2_3, hi2_3⟩ := at_T76 HR0_2.out x13_1 p2 q2
       cases e2
       replace hx2_0 := (HB.out.cell (World.block_lt_of_cell? w _ hx2_0)).trans hx2_0
       replace hx2_1 := (HB.out.cell (World.block_lt_of_cell? w _ hx2_1)).trans hx2_1
       replace hx2_2 := (HB.out.cell (World.block_lt_of_cell? w _ hx2_2)).trans hx2_2
       replace hx2_3 := (HB.out.cell (World.block_lt_of_cell? w _ hx2_3)).trans hx2_3
       have HR2_2 := Aside0.mk hi2_2
       have HC2_2 := Aside0.mk hl2_2
       clear hi2_2 hl2_2
       have HR2_3 := Aside0.mk hi2_3
       have HC2_3 := Aside0.mk hl2_3
       clear hi2_3 hl2_3
       replace p2 := eq_true p2
       replace q2 := eq_true q2
       go_wp2_with (first | ((with_reducible refine gate_dst (N := 5) rfl ?_); refine box_event ?hg (N := 5) ?hd (cs := #[.bool false, .int .i64 0, .slice none 0 0, .slice none 0 0]) (t := 76) ?hr ?_; (case hd => rfl); (case hg => rfl); (case hr => first | (go_simp; done) | (go_simp; rfl)); intro gb3 hg w9 hbox hb; have BK3 := Aside0.mk (hbox); have GW3 := Aside0.mk ((by rw [hg]; exact (below_size (hbW HB)) : w.heap.size ≤ gb3)); have GE3 := Aside0.mk ((by rw [hg]; exact (below_size (hbW HB)) : w.heap.size ≤ gb3)); have NB1_3 := Aside0.mk ((by rw [hg]; exact Nat.ne_of_lt (blk_lt (bkW BK1)) : gb1 ≠ gb3)); have NB3_1 := Aside0.mk ((by rw [hg]; exact Nat.ne_of_gt (blk_lt (bkW BK1)) : gb3 ≠ gb1)); replace BK1 := bkB BK1 hb; replace HB := hbS HB hb; clear hb hbox hg; have hnb10 := NB3_1.out; have hnc10 := NB1_3.out; obtain ⟨hcz11_0, hcz11_1, hcz11_2, hcz11_3, hfz11_0, hfz11_1, hfz11_2, hfz11_3⟩ := bc4 BK3) | ((with_reducible refine gate_callee (f := 40) rfl ?_); refine goesL_ (some 21) rfl rfl Try.func40 (by kernel_rfl) rfl #[.agg #[.int .i64 ((rd_T76 l0_2 x13_1).f1.f0), .slice A2_2 ((rd_T76 l0_2 x13_1).f1.f1).length c2_2, .slice A2_3 ((rd_T76 l0_2 x13_1).f1.f2).length c2_3]] rfl (by (try simp only [List.map_toArray, List.map_cons, List.map_nil]); first | done | rfl | (simp only [List.length_drop, List.length_take]; rfl)) ?_; (with_reducible refine (q15z.calls k1 ((rd_T76 l0_2 x13_1).f1.f0) _ _ ((rd_T76 l0_2 x13_1).f1.f1) _ _ ((rd_T76 l0_2 x13_1).f1.f2) t4 t5 _ ?side1 ?side2 ?side3 ?side4 A7.out).mono ?_); (case side1 => exact Kd.C_below HR2_2.out (hbW HB)); (case side2 => exact HC2_2.out); (case side3 => exact Kd.C_below HR2_3.out (hbW HB)); (case side4 => exact HC2_3.out); rintro e w12 ⟨rfl, hb⟩; refine ⟨_, rfl, ?_⟩; replace BK1 := bvB BK1 hb; replace BK3 := Aside0.mk (blk_below (g := gb3) (o := .cells #[.bool ((rd_T76 l0_2 x13_1).f0), .int .i64 ((rd_T76 l0_2 x13_1).f1.f0), .slice A2_2 ((rd_T76 l0_2 x13_1).f1.f1).length c2_2, .slice A2_3 ((rd_T76 l0_2 x13_1).f1.f2).length c2_3] 76 (0, 0)) (bp4 BK3) hb); replace HB := hbS HB hb; (try clear hb)))
       go_ret
       exact ⟨by first | rfl | (simp [errW_none, errW_some] <;> rfl) | (simp [*, errW_none, errW_some] <;> rfl), hbW HB⟩
      ·
       rw [if_neg c8] at H
       have c8b0 : decide (100 < x13_1) = false := decide_eq_false c8
       clear c8
       by_cases c13 : (wrap64 (x3_1 + t4)) > 3000
       ·
        rw [if_pos c13] at H
        have c13b0 : decide (3000 < (wrap64 (x3_1 + t4))) = true := decide_eq_true c13
        clear c13
        obtain rfl := Option.some.inj H
        have p2 : 0 ≤ (x13_1 : Int) := of_decide_eq_true (by first | (with_reducible assumption) | assumption)
        have q2 : x13_1 < (l0_2.length : Int) := of_decide_eq_true (by first | (with_reducible assumption) | assumption)
        obtain ⟨ad2, A2_2, c2_2, A2_3, c2_3, e2, hx2_0, hx2_1, hx2_2, hx2_3, hl2_2, hi2_2, hl2_3, hi2_3⟩ := at_T76 HR0_2.out x13_1 p2 q2
        cases e2
        replace hx2_0 := (HB.out.cell (World.block_lt_of_cell? w _ hx2_0)).trans hx2_0
        replace hx2_1 := (HB.out.cell (World.block_lt_of_cell? w _ hx2_1)).trans hx2_1
        replace hx2_2 := (HB.out.cell (World.block_lt_of_cell? w _ hx2_2)).trans hx2_2
        replace hx2_3 := (HB.out.cell (World.block_lt_of_cell? w _ hx2_3)).trans hx2_3
        have HR2_2 := Aside0.mk hi2_2
        have HC2_2 := Aside0.mk hl2_2
        clear hi2_2 hl2_2
        have HR2_3 := Aside0.mk hi2_3
        have HC2_3 := Aside0.mk hl2_3
        clear hi2_3 hl2_3
        replace p2 := eq_true p2
        replace q2 := eq_true q2
        go_wp2_with (first | ((with_reducible refine gate_dst (N := 5) rfl ?_); refine box_event ?hg (N := 5) ?hd (cs := #[.bool false, .int .i64 0, .slice none 0 0, .slice none 0 0]) (t := 76) ?hr ?_; (case hd => rfl); (case hg => rfl); (case hr => first | (go_simp; done) | (go_simp; rfl)); intro gb3 hg w14 hbox hb; have BK3 := Aside0.mk (hbox); have GW3 := Aside0.mk ((by rw [hg]; exact (below_size (hbW HB)) : w.heap.size ≤ gb3)); have GE3 := Aside0.mk ((by rw [hg]; exact (below_size (hbW HB)) : w.heap.size ≤ gb3)); have NB1_3 := Aside0.mk ((by rw [hg]; exact Nat.ne_of_lt (blk_lt (bkW BK1)) : gb1 ≠ gb3)); have NB3_1 := Aside0.mk ((by rw [hg]; exact Nat.ne_of_gt (blk_lt (bkW BK1)) : gb3 ≠ gb1)); replace BK1 := bkB BK1 hb; replace HB := hbS HB hb; clear hb hbox hg; have hnb15 := NB3_1.out; have hnc15 := NB1_3.out; obtain ⟨hcz16_0, hcz16_1, hcz16_2, hcz16_3, hfz16_0, hfz16_1, hfz16_2, hfz16_3⟩ := bc4 BK3) | ((with_reducible refine gate_callee (f := 40) rfl ?_); refine goesL_ (some 21) rfl rfl Try.func40 (by kernel_rfl) rfl #[.agg #[.int .i64 ((rd_T76 l0_2 x13_1).f1.f0), .slice A2_2 ((rd_T76 l0_2 x13_1).f1.f1).length c2_2, .slice A2_3 ((rd_T76 l0_2 x13_1).f1.f2).length c2_3]] rfl (by (try simp only [List.map_toArray, List.map_cons, List.map_nil]); first | done | rfl | (simp only [List.length_drop, List.length_take]; rfl)) ?_; (with_reducible refine (q15z.calls k1 ((rd_T76 l0_2 x13_1).f1.f0) _ _ ((rd_T76 l0_2 x13_1).f1.f1) _ _ ((rd_T76 l0_2 x13_1).f1.f2) t4 t5 _ ?side1 ?side2 ?side3 ?side4 A7.out).mono ?_); (case side1 => exact Kd.C_below HR2_2.out (hbW HB)); (case side2 => exact HC2_2.out); (case side3 => exact Kd.C_below HR2_3.out (hbW HB)); (case side4 => exact HC2_3.out); rintro e w17 ⟨rfl, hb⟩; refine ⟨_, rfl, ?_⟩; replace BK1 := bvB BK1 hb; replace BK3 := Aside0.mk (blk_below (g := gb3) (o := .cells #[.bool ((rd_T76 l0_2 x13_1).f0), .int .i64 ((rd_T76 l0_2 x13_1).f1.f0), .slice A2_2 ((rd_T76 l0_2 x13_1).f1.f1).length c2_2, .slice A2_3 ((rd_T76 l0_2 x13_1).f1.f2).length c2_3] 76 (0, 0)) (bp4 BK3) hb); replace HB := hbS HB hb; (try clear hb)))
        go_ret
        exact ⟨by first | rfl | (simp [errW_none, errW_some] <;> rfl) | (simp [*, errW_none, errW_some] <;> rfl), hbW HB⟩
       ·
        rw [if_neg c13] at H
        have c13b0 : decide (3000 < (wrap64 (x3_1 + t4))) = false := decide_eq_false c13
        clear c13
        have H' := Aside0.mk H
        clear H
        have p2 : 0 ≤ (x13_1 : Int) := of_decide_eq_true (by first | (with_reducible assumption) | assumption)
        have q2 : x13_1 < (l0_2.length : Int) := of_decide_eq_true (by first | (with_reducible assumption) | assumption)
        obtain ⟨ad2, A2_2, c2_2, A2_3, c2_3, e2, hx2_0, hx2_1, hx2_2, hx2_3, hl2_2, hi2_2, hl2_3, hi2_3⟩ := at_T76 HR0_2.out x13_1 p2 q2
        cases e2
        replace hx2_0 := (HB.out.cell (World.block_lt_of_cell? w _ hx2_0)).trans hx2_0
        replace hx2_1 := (HB.out.cell (World.block_lt_of_cell? w _ hx2_1)).trans hx2_1
        replace hx2_2 := (HB.out.cell (World.block_lt_of_cell? w _ hx2_2)).trans hx2_2
        replace hx2_3 := (HB.out.cell (World.block_lt_of_cell? w _ hx2_3)).trans hx2_3
        have HR2_2 := Aside0.mk hi2_2
        have HC2_2 := Aside0.mk hl2_2
        clear hi2_2 hl2_2
        have HR2_3 := Aside0.mk hi2_3
        have HC2_3 := Aside0.mk hl2_3
        clear hi2_3 hl2_3
        replace p2 := eq_true p2
        replace q2 := eq_true q2
        go_wp2_with (first | ((with_reducible refine gate_dst (N := 5) rfl ?_); refine box_event ?hg (N := 5) ?hd (cs := #[.bool false, .int .i64 0, .slice none 0 0, .slice none 0 0]) (t := 76) ?hr ?_; (case hd => rfl); (case hg => rfl); (case hr => first | (go_simp; done) | (go_simp; rfl)); intro gb3 hg w18 hbox hb; have BK3 := Aside0.mk (hbox); have GW3 := Aside0.mk ((by rw [hg]; exact (below_size (hbW HB)) : w.heap.size ≤ gb3)); have GE3 := Aside0.mk ((by rw [hg]; exact (below_size (hbW HB)) : w.heap.size ≤ gb3)); have NB1_3 := Aside0.mk ((by rw [hg]; exact Nat.ne_of_lt (blk_lt (bkW BK1)) : gb1 ≠ gb3)); have NB3_1 := Aside0.mk ((by rw [hg]; exact Nat.ne_of_gt (blk_lt (bkW BK1)) : gb3 ≠ gb1)); replace BK1 := bkB BK1 hb; replace HB := hbS HB hb; clear hb hbox hg; have hnb19 := NB3_1.out; have hnc19 := NB1_3.out; obtain ⟨hcz20_0, hcz20_1, hcz20_2, hcz20_3, hfz20_0, hfz20_1, hfz20_2, hfz20_3⟩ := bc4 BK3) | ((with_reducible refine gate_callee (f := 40) rfl ?_); refine goesL_ (some 21) rfl rfl Try.func40 (by kernel_rfl) rfl #[.agg #[.int .i64 ((rd_T76 l0_2 x13_1).f1.f0), .slice A2_2 ((rd_T76 l0_2 x13_1).f1.f1).length c2_2, .slice A2_3 ((rd_T76 l0_2 x13_1).f1.f2).length c2_3]] rfl (by (try simp only [List.map_toArray, List.map_cons, List.map_nil]); first | done | rfl | (simp only [List.length_drop, List.length_take]; rfl)) ?_; (with_reducible refine (q15z.calls k1 ((rd_T76 l0_2 x13_1).f1.f0) _ _ ((rd_T76 l0_2 x13_1).f1.f1) _ _ ((rd_T76 l0_2 x13_1).f1.f2) t4 t5 _ ?side1 ?side2 ?side3 ?side4 A7.out).mono ?_); (case side1 => exact Kd.C_below HR2_2.out (hbW HB)); (case side2 => exact HC2_2.out); (case side3 => exact Kd.C_below HR2_3.out (hbW HB)); (case side4 => exact HC2_3.out); rintro e w21 ⟨rfl, hb⟩; refine ⟨_, rfl, ?_⟩; replace BK1 := bvB BK1 hb; replace BK3 := Aside0.mk (blk_below (g := gb3) (o := .cells #[.bool ((rd_T76 l0_2 x13_1).f0), .int .i64 ((rd_T76 l0_2 x13_1).f1.f0), .slice A2_2 ((rd_T76 l0_2 x13_1).f1.f1).length c2_2, .slice A2_3 ((rd_T76 l0_2 x13_1).f1.f2).length c2_3] 76 (0, 0)) (bp4 BK3) hb); replace HB := hbS HB hb; (try clear hb)))
        go_roundg k1
        case measure => have := HK1.out; omega
        case rel => exact ⟨(wrap64 (x3_1 + t4)), (wrap64 (x13_1 + 1)), (by first | rfl | (simp; done) | (simp [*]; done)), (by first | rfl | (simp; done) | (simp [*]; done)), H', ⟨by have := HK1.out; omega⟩, ⟨by (with_reducible repeat (first | refine blk_drewN ?_ _ | refine blk_drew ?_ | refine blk_alloc ?_ _)); exact BK1.out⟩, ⟨hbW HB⟩⟩
     ·
      rw [if_neg c6] at H
      exact absurd H (by simp)
    ·
     rw [if_neg c5] at H
     exact absurd H (by simp)
   ·
    rw [if_neg c4] at H
    have c4b0 : decide (x13_1 < (l0_2.length : Int)) = false := decide_eq_false c4
    clear c4
    have H' := Aside0.mk H
    clear H
    obtain ⟨hcz22_0, hcz22_1, hcz22_2, hcz22_3, hcz22_4, hcz22_5, hfz22_0, hfz22_1, hfz22_2, hfz22_3, hfz22_4, hfz22_5⟩ := bc6 BK1
    go_wp2
    go_loopg [3, 37] k1 (fun kq v3 v37 w' => ∃ (x3_2 : Int) (x37_2 : Int), v3 = .int .i64 x3_2 ∧ v37 = .int .i64 x37_2 ∧ Aside0 (q16z.l1 kq x3_2 l0_3 (l0_3.length : Int) x37_2 a0_0 l0_1 l0_2 l0_3 a0_4 a0_5 = some r) ∧ Aside0 (kq ≤ k1) ∧ Aside0 (w'.heap[gb1]? = some (.cells #[.int .i64 a0_0, (.slice A0_1 l0_1.length c0_1), (.slice A0_2 l0_2.length c0_2), (.slice A0_3 l0_3.length c0_3), .int .u32 a0_4, .int .u32 a0_5] 58 (0, 0))) ∧ Aside0 (Below w.heap.size w w'))
    case atStart => exact ⟨(0), (0), (by first | rfl | (simp; done) | (simp [*]; done)), (by first | rfl | (simp; done) | (simp [*]; done)), H', ⟨Nat.le_refl _⟩, ⟨by (with_reducible repeat (first | refine blk_drewN ?_ _ | refine blk_drew ?_ | refine blk_alloc ?_ _)); exact BK1.out⟩, ⟨hbW HB⟩⟩
    case round =>
     clear H'
     try clear c1
     try clear c2
     try clear p2
     try clear q2
     try clear hx2
     try clear c4
     try clear c4b0
     try clear c5
     try clear c5b0
     try clear c6
     try clear c6b0
     try clear p6
     try clear c8
     try clear c8b0
     try clear c10
     try clear c13
     try clear c13b0
     try clear c15
     try clear c19
     try clear hcz11_0
     try clear hcz11_1
     try clear hcz11_2
     try clear hcz11_3
     try clear hcz16_0
     try clear hcz16_1
     try clear hcz16_2
     try clear hcz16_3
     try clear hcz20_0
     try clear hcz20_1
     try clear hcz20_2
     try clear hcz20_3
     try clear hcz22_0
     try clear hcz22_1
     try clear hcz22_2
     try clear hcz22_3
     try clear hcz22_4
     try clear hcz22_5
     try clear hcz3_0
     try clear hcz3_1
     try clear hcz3_2
     try clear hcz3_3
     try clear hcz3_4
     try clear hcz3_5
     try clear hfz11_0
     try clear hfz11_1
     try clear hfz11_2
     try clear hfz11_3
     try clear hfz16_0
     try clear hfz16_1
     try clear hfz16_2
     try clear hfz16_3
     try clear hfz20_0
     try clear hfz20_1
     try clear hfz20_2
     try clear hfz20_3
     try clear hfz22_0
     try clear hfz22_1
     try clear hfz22_2
     try clear hfz22_3
     try clear hfz22_4
     try clear hfz22_5
     try clear hfz3_0
     try clear hfz3_1
     try clear hfz3_2
     try clear hfz3_3
     try clear hfz3_4
     try clear hfz3_5
     try clear hx2_0
     try clear hx2_1
     try clear hx2_2
     try clear hx2_3
     try clear p2
     try clear q2
     obtain ⟨x3_2, x37_2, rfl, rfl, HA, HK2, BK1, HB⟩ := hrel
     cases gk with
     | zero => exact absurd HA.out (by simp [q16z.l1])
     | succ k2 =>
      have H := HA.out
      clear HA
      simp only [q16z.l1] at H
      by_cases c23 : x37_2 < (l0_3.length : Int)
      ·
       rw [if_pos c23] at H
       have c23b0 : decide (x37_2 < (l0_3.length : Int)) = true := decide_eq_true c23
       clear c23
       by_cases c24 : 0 ≤ x37_2
       ·
        rw [if_pos c24] at H
        have c24b0 : decide (0 ≤ x37_2) = true := decide_eq_true c24
        clear c24
        by_cases c25 : x37_2 < (l0_3.length : Int)
        ·
         rw [if_pos c25] at H
         have c25b0 : decide (x37_2 < (l0_3.length : Int)) = true := decide_eq_true c25
         clear c25
         obtain ⟨ji26, hji26⟩ : ∃ j_ : Int, (mn (((rd_T53 l0_3 x37_2).f1).length : Int) 10000) = j_ := ⟨_, rfl⟩
         replace H : (if x37_2 > 100 then (some true) else (if (wrap64 (x3_2 + (ji26))) > 3000 then (some true) else (q16z.l1 k2 (wrap64 (x3_2 + (ji26))) l0_3 (l0_3.length : Int) (wrap64 (x37_2 + 1)) a0_0 l0_1 l0_2 l0_3 a0_4 a0_5))) = some r := by first | (rw [hji26] at H; exact H) | (simp only [hji26] at H ⊢; exact H)
         have hji26_ : (if 10000 < (((rd_T53 l0_3 x37_2).f1).length : Int) then 10000 else (((rd_T53 l0_3 x37_2).f1).length : Int)) = ji26 := hji26
         by_cases c27 : x37_2 > 100
         ·
          rw [if_pos c27] at H
          have c27b0 : decide (100 < x37_2) = true := decide_eq_true c27
          clear c27
          obtain rfl := Option.some.inj H
          have p6 : 0 ≤ (x37_2 : Int) := of_decide_eq_true (by first | (with_reducible assumption) | assumption)
          have q6 : x37_2 < (l0_3.length : Int) := of_decide_eq_true (by first | (with_reducible assumption) | assumption)
          obtain ⟨ad6, A6_1, c6_1, e6, hx6_0, hx6_1, hl6_1, hi6_1⟩ := at_T53 HR0_3.out x37_2 p6 q6
          cases e6
          replace hx6_0 := (HB.out.cell (World.block_lt_of_cell? w _ hx6_0)).trans hx6_0
          replace hx6_1 := (HB.out.cell (World.block_lt_of_cell? w _ hx6_1)).trans hx6_1
          have HR6_1 := Aside0.mk hi6_1
          have HC6_1 := Aside0.mk hl6_1
          clear hi6_1 hl6_1
          replace p6 := eq_true p6
          replace q6 := eq_true q6
          go_wp2_with (first | ((with_reducible refine gate_dst (N := 9) rfl ?_); refine box_event ?hg (N := 9) ?hd (cs := #[.bool false, .slice none 0 0]) (t := 53) ?hr ?_; (case hd => rfl); (case hg => rfl); (case hr => first | (go_simp; done) | (go_simp; rfl)); intro gb7 hg w28 hbox hb; have BK7 := Aside0.mk (hbox); have GW7 := Aside0.mk ((by rw [hg]; exact (below_size (hbW HB)) : w.heap.size ≤ gb7)); have GE7 := Aside0.mk ((by rw [hg]; exact (below_size (hbW HB)) : w.heap.size ≤ gb7)); have NB1_7 := Aside0.mk ((by rw [hg]; exact Nat.ne_of_lt (blk_lt (bkW BK1)) : gb1 ≠ gb7)); have NB7_1 := Aside0.mk ((by rw [hg]; exact Nat.ne_of_gt (blk_lt (bkW BK1)) : gb7 ≠ gb1)); replace BK1 := bkB BK1 hb; replace HB := hbS HB hb; clear hb hbox hg; have hnb29 := NB7_1.out; have hnc29 := NB1_7.out; obtain ⟨hcz30_0, hcz30_1, hfz30_0, hfz30_1⟩ := bc2 BK7))
          go_ret
          exact ⟨by first | rfl | (simp [errW_none, errW_some] <;> rfl) | (simp only [← hji26]; first | rfl | (simp [errW_none, errW_some] <;> rfl)) | (simp [*, errW_none, errW_some] <;> rfl), hbW HB⟩
         ·
          rw [if_neg c27] at H
          have c27b0 : decide (100 < x37_2) = false := decide_eq_false c27
          clear c27
          by_cases c31 : (wrap64 (x3_2 + (ji26))) > 3000
          ·
           rw [if_pos c31] at H
           have c31b0 : decide (3000 < (wrap64 (x3_2 + (ji26)))) = true := decide_eq_true c31
           clear c31
           obtain rfl := Option.some.inj H
           have p6 : 0 ≤ (x37_2 : Int) := of_decide_eq_true (by first | (with_reducible assumption) | assumption)
           have q6 : x37_2 < (l0_3.length : Int) := of_decide_eq_true (by first | (with_reducible assumption) | assumption)
           obtain ⟨ad6, A6_1, c6_1, e6, hx6_0, hx6_1, hl6_1, hi6_1⟩ := at_T53 HR0_3.out x37_2 p6 q6
           cases e6
           replace hx6_0 := (HB.out.cell (World.block_lt_of_cell? w _ hx6_0)).trans hx6_0
           replace hx6_1 := (HB.out.cell (World.block_lt_of_cell? w _ hx6_1)).trans hx6_1
           have HR6_1 := Aside0.mk hi6_1
           have HC6_1 := Aside0.mk hl6_1
           clear hi6_1 hl6_1
           replace p6 := eq_true p6
           replace q6 := eq_true q6
           go_wp2_with (first | ((with_reducible refine gate_dst (N := 9) rfl ?_); refine box_event ?hg (N := 9) ?hd (cs := #[.bool false, .slice none 0 0]) (t := 53) ?hr ?_; (case hd => rfl); (case hg => rfl); (case hr => first | (go_simp; done) | (go_simp; rfl)); intro gb7 hg w32 hbox hb; have BK7 := Aside0.mk (hbox); have GW7 := Aside0.mk ((by rw [hg]; exact (below_size (hbW HB)) : w.heap.size ≤ gb7)); have GE7 := Aside0.mk ((by rw [hg]; exact (below_size (hbW HB)) : w.heap.size ≤ gb7)); have NB1_7 := Aside0.mk ((by rw [hg]; exact Nat.ne_of_lt (blk_lt (bkW BK1)) : gb1 ≠ gb7)); have NB7_1 := Aside0.mk ((by rw [hg]; exact Nat.ne_of_gt (blk_lt (bkW BK1)) : gb7 ≠ gb1)); replace BK1 := bkB BK1 hb; replace HB := hbS HB hb; clear hb hbox hg; have hnb33 := NB7_1.out; have hnc33 := NB1_7.out; obtain ⟨hcz34_0, hcz34_1, hfz34_0, hfz34_1⟩ := bc2 BK7))
           go_ret
           exact ⟨by first | rfl | (simp [errW_none, errW_some] <;> rfl) | (simp only [← hji26]; first | rfl | (simp [errW_none, errW_some] <;> rfl)) | (simp [*, errW_none, errW_some] <;> rfl), hbW HB⟩
          ·
           rw [if_neg c31] at H
           have c31b0 : decide (3000 < (wrap64 (x3_2 + (ji26)))) = false := decide_eq_false c31
           clear c31
           have H' := Aside0.mk H
           clear H
           have p6 : 0 ≤ (x37_2 : Int) := of_decide_eq_true (by first | (with_reducible assumption) | assumption)
           have q6 : x37_2 < (l0_3.length : Int) := of_decide_eq_true (by first | (with_reducible assumption) | assumption)
           obtain ⟨ad6, A6_1, c6_1, e6, hx6_0, hx6_1, hl6_1, hi6_1⟩ := at_T53 HR0_3.out x37_2 p6 q6
           cases e6
           replace hx6_0 := (HB.out.cell (World.block_lt_of_cell? w _ hx6_0)).trans hx6_0
           replace hx6_1 := (HB.out.cell (World.block_lt_of_cell? w _ hx6_1)).trans hx6_1
           have HR6_1 := Aside0.mk hi6_1
           have HC6_1 := Aside0.mk hl6_1
           clear hi6_1 hl6_1
           replace p6 := eq_true p6
           replace q6 := eq_true q6
           go_wp2_with (first | ((with_reducible refine gate_dst (N := 9) rfl ?_); refine box_event ?hg (N := 9) ?hd (cs := #[.bool false, .slice none 0 0]) (t := 53) ?hr ?_; (case hd => rfl); (case hg => rfl); (case hr => first | (go_simp; done) | (go_simp; rfl)); intro gb7 hg w35 hbox hb; have BK7 := Aside0.mk (hbox); have GW7 := Aside0.mk ((by rw [hg]; exact (below_size (hbW HB)) : w.heap.size ≤ gb7)); have GE7 := Aside0.mk ((by rw [hg]; exact (below_size (hbW HB)) : w.heap.size ≤ gb7)); have NB1_7 := Aside0.mk ((by rw [hg]; exact Nat.ne_of_lt (blk_lt (bkW BK1)) : gb1 ≠ gb7)); have NB7_1 := Aside0.mk ((by rw [hg]; exact Nat.ne_of_gt (blk_lt (bkW BK1)) : gb7 ≠ gb1)); replace BK1 := bkB BK1 hb; replace HB := hbS HB hb; clear hb hbox hg; have hnb36 := NB7_1.out; have hnc36 := NB1_7.out; obtain ⟨hcz37_0, hcz37_1, hfz37_0, hfz37_1⟩ := bc2 BK7))
           go_roundg k2
           case measure => have := HK1.out; have := HK2.out; omega
           case rel => exact ⟨(wrap64 (x3_2 + (ji26))), (wrap64 (x37_2 + 1)), (by first | rfl | (simp; done) | (simp only [← hji26] <;> (first | rfl | simp)) | (simp [*]; done)), (by first | rfl | (simp; done) | (simp [*]; done)), H', ⟨by have := HK1.out; have := HK2.out; omega⟩, ⟨by (with_reducible repeat (first | refine blk_drewN ?_ _ | refine blk_drew ?_ | refine blk_alloc ?_ _)); refine blk_far ?_ NB1_7.out _; (with_reducible repeat (first | refine blk_drewN ?_ _ | refine blk_drew ?_ | refine blk_alloc ?_ _)); refine blk_far ?_ NB1_7.out _; (with_reducible repeat (first | refine blk_drewN ?_ _ | refine blk_drew ?_ | refine blk_alloc ?_ _)); exact BK1.out⟩, ⟨hbW HB⟩⟩
        ·
         rw [if_neg c25] at H
         exact absurd H (by simp)
       ·
        rw [if_neg c24] at H
        exact absurd H (by simp)
      ·
       rw [if_neg c23] at H
       have c23b0 : decide (x37_2 < (l0_3.length : Int)) = false := decide_eq_false c23
       clear c23
       obtain rfl := Option.some.inj H
       obtain ⟨hcz38_0, hcz38_1, hcz38_2, hcz38_3, hcz38_4, hcz38_5, hfz38_0, hfz38_1, hfz38_2, hfz38_3, hfz38_4, hfz38_5⟩ := bc6 BK1
       go_wp2
       go_ret
       exact ⟨by first | rfl | (simp [errW_none, errW_some] <;> rfl) | (simp [*, errW_none, errW_some] <;> rfl), hbW HB⟩

end Go.Proofs.Ytgelpccjdndfoaa.P

namespace Go.Proofs.Ytgelpccjdndfoaa.P
open Go.RowKit Go.Proofs.YtgelpccjdndfoaaW.PrintWords Go.Proofs.YtgelpccjdndfoaaW.PrintLast Go.Proofs.YtgelpccjdndfoaaW.PrintMore
attribute [local go_sem] max2_int min2_int max_two min_two max_three min_three max_four min_four
set_option linter.unusedVariables false
set_option linter.unusedSimpArgs false

/-! ### dragomanref12_Great: function 9 -/
def q17z.f (k : Nat) (a0_0 : Int) (a0_1 : Int) (l0_2 : List Int) (l0_3 : List (S53)) : Option (Bool) := if (l0_2.length : Int) > 3000 then (some true) else ((q16z.f k 0 ([] : List (S92)) ([] : List (S76)) l0_3 0 0).bind fun t2 => (some t2))
theorem q17z.mono : ∀ a0 a1 a2 a3 k, LeO (q17z.f k a0 a1 a2 a3) (q17z.f (k + 1) a0 a1 a2 a3) := by
 intro a0 a1 a2 a3 k
 unfold q17z.f
 repeat' first
   | (with_reducible exact q16z.mono _ _ _ _ _ _ _)
   | (with_reducible exact LeO.refl _)
   | (with_reducible exact LeO.none _)
   | (with_reducible refine LeO.ite ?_ ?_)
   | (with_reducible refine LeO.bind ?_ (fun _ => ?_))
   | exact q16z.mono _ _ _ _ _ _ _
   | exact LeO.none _
   | refine LeO.ite ?_ ?_
   | refine LeO.bind ?_ (fun _ => ?_)
set_option maxHeartbeats 8000000 in
set_option maxRecDepth 100000 in
theorem q17z.calls (k : Nat) (a0_0 : Int) (a0_1 : Int) (A0_2 : Option Addr) (c0_2 : Nat) (l0_2 : List Int) (A0_3 : Option Addr) (c0_3 : Nat) (l0_3 : List (S53)) (r : Bool) (w : World) (hr0_2 : Kd.C (Kd.int .u32) w A0_2 l0_2.length l0_2) (hc0_2 : l0_2.length ≤ c0_2) (hr0_3 : Kd.C k53 w A0_3 l0_3.length l0_3) (hc0_3 : l0_3.length ≤ c0_3) (h : q17z.f k a0_0 a0_1 l0_2 l0_3 = some r) :
  Calls Try.prog 9 #[.agg #[.int .i64 a0_0, .int .u32 a0_1, .slice A0_2 l0_2.length c0_2, .slice A0_3 l0_3.length c0_3]] w fun e w' => e = .returned (.bool r) ∧ Below w.heap.size w w' := by
 have hu26 := Try.underlying26
 have hu58 := Try.underlying58
 have HR0_2 := Aside0.mk hr0_2
 have HC0_2 := Aside0.mk hc0_2
 clear hr0_2 hc0_2
 have HR0_3 := Aside0.mk hr0_3
 have HC0_3 := Aside0.mk hc0_3
 clear hr0_3 hc0_3
 have HB := Aside0.mk (Below.refl w.heap.size w)
 have H : (if (l0_2.length : Int) > 3000 then (some true) else ((q16z.f k 0 ([] : List (S92)) ([] : List (S76)) l0_3 0 0).bind fun t2 => (some t2))) = some r := h
 clear h
 by_cases c2 : (l0_2.length : Int) > 3000
 ·
  rw [if_pos c2] at H
  have c2b0 : decide (3000 < (l0_2.length : Int)) = true := decide_eq_true c2
  have c2b1 : decide (3000 < l0_2.length) = true := decide_eq_true (by omega)
  clear c2
  obtain rfl := Option.some.inj H
  go_enter Try.func9, Try.ntmps9
  go_wp2_with (first | ((with_reducible refine gate_dst (N := 1) rfl ?_); refine box_event ?hg (N := 1) ?hd (cs := #[.int .i64 a0_0, .int .u32 a0_1, .slice A0_2 l0_2.length c0_2, .slice A0_3 l0_3.length c0_3]) (t := 26) ?hr ?_; (case hd => rfl); (case hg => rfl); (case hr => first | (go_simp; done) | (go_simp; rfl)); intro gb1 hg w3 hbox hb; have BK1 := Aside0.mk (hbox); have GW1 := Aside0.mk ((by rw [hg]; exact (below_size (hbW HB)) : w.heap.size ≤ gb1)); have GE1 := Aside0.mk ((by rw [hg]; exact (below_size (hbW HB)) : w.heap.size ≤ gb1)); replace HB := hbS HB hb; clear hb hbox hg; obtain ⟨hcz4_0, hcz4_1, hcz4_2, hcz4_3, hfz4_0, hfz4_1, hfz4_2, hfz4_3⟩ := bc4 BK1))
  go_ret
  exact ⟨by first | rfl | (simp [errW_none, errW_some] <;> rfl) | (simp [*, errW_none, errW_some] <;> rfl), hbW HB⟩
 ·
  rw [if_neg c2] at H
  have c2b0 : decide (3000 < (l0_2.length : Int)) = false := decide_eq_false c2
  have c2b1 : decide (3000 < l0_2.length) = false := decide_eq_false (by omega)
  clear c2
  replace H := Option.bind_eq_some_iff.mp H
  obtain ⟨t2, A50, H⟩ := H
  replace H : (some t2) = some r := H
  have A5 := Aside0.mk A50
  clear A50
  obtain rfl := Option.some.inj H
  go_enter Try.func9, Try.ntmps9
  go_wp2_with (first | ((with_reducible refine gate_dst (N := 1) rfl ?_); refine box_event ?hg (N := 1) ?hd (cs := #[.int .i64 a0_0, .int .u32 a0_1, .slice A0_2 l0_2.length c0_2, .slice A0_3 l0_3.length c0_3]) (t := 26) ?hr ?_; (case hd => rfl); (case hg => rfl); (case hr => first | (go_simp; done) | (go_simp; rfl)); intro gb1 hg w6 hbox hb; have BK1 := Aside0.mk (hbox); have GW1 := Aside0.mk ((by rw [hg]; exact (below_size (hbW HB)) : w.heap.size ≤ gb1)); have GE1 := Aside0.mk ((by rw [hg]; exact (below_size (hbW HB)) : w.heap.size ≤ gb1)); replace HB := hbS HB hb; clear hb hbox hg; obtain ⟨hcz7_0, hcz7_1, hcz7_2, hcz7_3, hfz7_0, hfz7_1, hfz7_2, hfz7_3⟩ := bc4 BK1) | (go_at_call 24; (refine (q16z.calls k 0 _ _ ([] : List (S92)) _ _ ([] : List (S76)) _ _ l0_3 0 0 t2 _ ?side1 ?side2 ?side3 ?side4 ?side5 ?side6 A5.out).mono ?_); (case side1 => exact Kd.C_nil _ _); (case side2 => exact Nat.le_refl _); (case side3 => exact Kd.C_nil _ _); (case side4 => exact Nat.le_refl _); (case side5 => repeat (first | exact (Kd.C_below HR0_3.out HB.out) | (with_reducible refine Kd.C_alloc ?_ _) | (with_reducible refine Kd.C_drewN ?_ _) | (with_reducible refine Kd.C_drew ?_))); (case side6 => exact HC0_3.out); rintro e w8 ⟨rfl, hb⟩; replace BK1 := bkB BK1 hb; replace HB := hbS HB hb; (try clear hb)))
  go_ret
  exact ⟨by first | rfl | (simp [errW_none, errW_some] <;> rfl) | (simp [*, errW_none, errW_some] <;> rfl), hbW HB⟩

end Go.Proofs.Ytgelpccjdndfoaa.P

namespace Go.Proofs.Ytgelpccjdndfoaa.P
open Go.RowKit Go.Proofs.YtgelpccjdndfoaaW.PrintWords Go.Proofs.YtgelpccjdndfoaaW.PrintLast Go.Proofs.YtgelpccjdndfoaaW.PrintMore
attribute [local go_sem] max2_int min2_int max_two min_two max_three min_three max_four min_four
set_option linter.unusedVariables false
set_option linter.unusedSimpArgs false

/-! ### dragomanlaw12_ActElse: function 5 -/
def q18z.j0 : Nat → Bool → Int → Int → List Int → List (S53) → Int → Int → List Int → List Int → Int → Int → Int → Int → Option (Bool)
 | 0, _, _, _, _, _, _, _, _, _, _, _, _, _ => none
 | k + 1, x14, x2000, x2001, x2002, x2003, x3000, x3001, x3002, x3003, x3004, x3005, x3006, x3007 => if x14 = true then (some true) else ((q9z.f k x2000 x2001 x2002 x2003 x3000 x3001 x3002 x3003 x3004 x3005 x3006 x3007).bind fun bt6 => ((q2z.f bt6.1 bt6.2.1 bt6.2.2.1 bt6.2.2.2.1 bt6.2.2.2.2.1 bt6.2.2.2.2.2.1 bt6.2.2.2.2.2.2.1 bt6.2.2.2.2.2.2.2).bind fun bt19 => (if x2000 = 1 then ((q12z.f k bt19.1 bt19.2.1 bt19.2.2.1 bt19.2.2.2.1 x3004 bt19.2.2.2.2.2.1 bt19.2.2.2.2.2.2.1 bt19.2.2.2.2.2.2.2 x3000 x3001 x3002 x3003 x3004 x3005 x3006 x3007).bind fun t32 => (if t32 = 0 then (if x2000 = 5 then (some true) else ((q9z.f k x2000 x2001 x2002 x2003 bt6.1 bt6.2.1 bt6.2.2.1 bt6.2.2.2.1 bt6.2.2.2.2.1 bt6.2.2.2.2.2.1 bt6.2.2.2.2.2.2.1 bt6.2.2.2.2.2.2.2).bind fun bt33 => ((q12z.f k bt33.1 bt33.2.1 bt33.2.2.1 bt33.2.2.2.1 bt33.2.2.2.2.1 bt33.2.2.2.2.2.1 bt33.2.2.2.2.2.2.1 bt33.2.2.2.2.2.2.2 bt6.1 bt6.2.1 bt6.2.2.1 bt6.2.2.2.1 bt6.2.2.2.2.1 bt6.2.2.2.2.2.1 bt6.2.2.2.2.2.2.1 bt6.2.2.2.2.2.2.2).bind fun t45 => (some (t45 == 0))))) else (some false))) else (if x2000 = 2 then ((q12z.f k bt19.1 bt19.2.1 bt19.2.2.1 bt19.2.2.2.1 bt19.2.2.2.2.1 x3005 bt19.2.2.2.2.2.2.1 bt19.2.2.2.2.2.2.2 x3000 x3001 x3002 x3003 x3004 x3005 x3006 x3007).bind fun t46 => (if t46 = 0 then (if x2000 = 5 then (some true) else ((q9z.f k x2000 x2001 x2002 x2003 bt6.1 bt6.2.1 bt6.2.2.1 bt6.2.2.2.1 bt6.2.2.2.2.1 bt6.2.2.2.2.2.1 bt6.2.2.2.2.2.2.1 bt6.2.2.2.2.2.2.2).bind fun bt47 => ((q12z.f k bt47.1 bt47.2.1 bt47.2.2.1 bt47.2.2.2.1 bt47.2.2.2.2.1 bt47.2.2.2.2.2.1 bt47.2.2.2.2.2.2.1 bt47.2.2.2.2.2.2.2 bt6.1 bt6.2.1 bt6.2.2.1 bt6.2.2.2.1 bt6.2.2.2.2.1 bt6.2.2.2.2.2.1 bt6.2.2.2.2.2.2.1 bt6.2.2.2.2.2.2.2).bind fun t59 => (some (t59 == 0))))) else (some false))) else (if x2000 = 3 then ((q12z.f k bt19.1 bt19.2.1 bt19.2.2.1 bt19.2.2.2.1 bt19.2.2.2.2.1 bt19.2.2.2.2.2.1 x3006 bt19.2.2.2.2.2.2.2 x3000 x3001 x3002 x3003 x3004 x3005 x3006 x3007).bind fun t60 => (if t60 = 0 then (if x2000 = 5 then (some true) else ((q9z.f k x2000 x2001 x2002 x2003 bt6.1 bt6.2.1 bt6.2.2.1 bt6.2.2.2.1 bt6.2.2.2.2.1 bt6.2.2.2.2.2.1 bt6.2.2.2.2.2.2.1 bt6.2.2.2.2.2.2.2).bind fun bt61 => ((q12z.f k bt61.1 bt61.2.1 bt61.2.2.1 bt61.2.2.2.1 bt61.2.2.2.2.1 bt61.2.2.2.2.2.1 bt61.2.2.2.2.2.2.1 bt61.2.2.2.2.2.2.2 bt6.1 bt6.2.1 bt6.2.2.1 bt6.2.2.2.1 bt6.2.2.2.2.1 bt6.2.2.2.2.2.1 bt6.2.2.2.2.2.2.1 bt6.2.2.2.2.2.2.2).bind fun t73 => (some (t73 == 0))))) else (some false))) else (if x2000 = 4 then ((q12z.f k bt19.1 bt19.2.1 bt19.2.2.1 bt19.2.2.2.1 bt19.2.2.2.2.1 bt19.2.2.2.2.2.1 bt19.2.2.2.2.2.2.1 x3007 x3000 x3001 x3002 x3003 x3004 x3005 x3006 x3007).bind fun t74 => (if t74 = 0 then (if x2000 = 5 then (some true) else ((q9z.f k x2000 x2001 x2002 x2003 bt6.1 bt6.2.1 bt6.2.2.1 bt6.2.2.2.1 bt6.2.2.2.2.1 bt6.2.2.2.2.2.1 bt6.2.2.2.2.2.2.1 bt6.2.2.2.2.2.2.2).bind fun bt75 => ((q12z.f k bt75.1 bt75.2.1 bt75.2.2.1 bt75.2.2.2.1 bt75.2.2.2.2.1 bt75.2.2.2.2.2.1 bt75.2.2.2.2.2.2.1 bt75.2.2.2.2.2.2.2 bt6.1 bt6.2.1 bt6.2.2.1 bt6.2.2.2.1 bt6.2.2.2.2.1 bt6.2.2.2.2.2.1 bt6.2.2.2.2.2.2.1 bt6.2.2.2.2.2.2.2).bind fun t87 => (some (t87 == 0))))) else (some false))) else (if x2000 = 5 then ((q12z.f k bt19.1 bt19.2.1 x3002 bt19.2.2.2.1 bt19.2.2.2.2.1 bt19.2.2.2.2.2.1 bt19.2.2.2.2.2.2.1 bt19.2.2.2.2.2.2.2 x3000 x3001 x3002 x3003 x3004 x3005 x3006 x3007).bind fun t88 => (if t88 = 0 then (some true) else (some false))) else ((q12z.f k bt19.1 bt19.2.1 bt19.2.2.1 x3003 bt19.2.2.2.2.1 bt19.2.2.2.2.2.1 bt19.2.2.2.2.2.2.1 bt19.2.2.2.2.2.2.2 x3000 x3001 x3002 x3003 x3004 x3005 x3006 x3007).bind fun t89 => (if t89 = 0 then ((q9z.f k x2000 x2001 x2002 x2003 bt6.1 bt6.2.1 bt6.2.2.1 bt6.2.2.2.1 bt6.2.2.2.2.1 bt6.2.2.2.2.2.1 bt6.2.2.2.2.2.2.1 bt6.2.2.2.2.2.2.2).bind fun bt90 => ((q12z.f k bt90.1 bt90.2.1 bt90.2.2.1 bt90.2.2.2.1 bt90.2.2.2.2.1 bt90.2.2.2.2.2.1 bt90.2.2.2.2.2.2.1 bt90.2.2.2.2.2.2.2 bt6.1 bt6.2.1 bt6.2.2.1 bt6.2.2.2.1 bt6.2.2.2.2.1 bt6.2.2.2.2.2.1 bt6.2.2.2.2.2.2.1 bt6.2.2.2.2.2.2.2).bind fun t102 => (some (t102 == 0)))) else (some false))))))))))
def q18z.f (k : Nat) (a0_0 : Int) (a0_1 : Int) (l0_2 : List Int) (l0_3 : List (S53)) (a1_0 : Int) (a1_1 : Int) (l1_2 : List Int) (l1_3 : List Int) (a1_4 : Int) (a1_5 : Int) (a1_6 : Int) (a1_7 : Int) : Option (Bool) := (q14z.f k).bind fun t3 => (if t3 = true then ((q17z.f k a0_0 a0_1 l0_2 l0_3).bind fun t4 => (if t4 = true then (q18z.j0 k true a0_0 a0_1 l0_2 l0_3 a1_0 a1_1 l1_2 l1_3 a1_4 a1_5 a1_6 a1_7) else ((q1z.f a1_0 a1_1 l1_2 l1_3 a1_4 a1_5 a1_6 a1_7).bind fun t5 => (q18z.j0 k t5 a0_0 a0_1 l0_2 l0_3 a1_0 a1_1 l1_2 l1_3 a1_4 a1_5 a1_6 a1_7)))) else (some false))
theorem q18z.mono_l : ∀ k, (∀ y0 y1 y2 y3 y4 y5 y6 y7 y8 y9 y10 y11 y12, LeO (q18z.j0 k y0 y1 y2 y3 y4 y5 y6 y7 y8 y9 y10 y11 y12) (q18z.j0 (k + 1) y0 y1 y2 y3 y4 y5 y6 y7 y8 y9 y10 y11 y12))
 | 0 => fun _ _ _ _ _ _ _ _ _ _ _ _ _ r h => by simp [q18z.j0] at h
 | k + 1 => by
  have ih0 := q18z.mono_l k
  ·
   intro y0 y1 y2 y3 y4 y5 y6 y7 y8 y9 y10 y11 y12
   unfold q18z.j0
   repeat' first
   | (with_reducible exact ih0 _ _ _ _ _ _ _ _ _ _ _ _ _)
   | (with_reducible exact q9z.mono _ _ _ _ _ _ _ _ _ _ _ _ _)
   | (with_reducible exact q14z.mono _)
   | (with_reducible exact q12z.mono _ _ _ _ _ _ _ _ _ _ _ _ _ _ _ _ _)
   | (with_reducible exact q17z.mono _ _ _ _ _)
   | (with_reducible exact LeO.refl _)
   | (with_reducible exact LeO.none _)
   | (with_reducible refine LeO.ite ?_ ?_)
   | (with_reducible refine LeO.bind ?_ (fun _ => ?_))
   | exact ih0 _ _ _ _ _ _ _ _ _ _ _ _ _
   | exact q9z.mono _ _ _ _ _ _ _ _ _ _ _ _ _
   | exact q14z.mono _
   | exact q12z.mono _ _ _ _ _ _ _ _ _ _ _ _ _ _ _ _ _
   | exact q17z.mono _ _ _ _ _
   | exact LeO.none _
   | refine LeO.ite ?_ ?_
   | refine LeO.bind ?_ (fun _ => ?_)
theorem q18z.mono : ∀ a0 a1 a2 a3 a4 a5 a6 a7 a8 a9 a10 a11 k, LeO (q18z.f k a0 a1 a2 a3 a4 a5 a6 a7 a8 a9 a10 a11) (q18z.f (k + 1) a0 a1 a2 a3 a4 a5 a6 a7 a8 a9 a10 a11) := by
 intro a0 a1 a2 a3 a4 a5 a6 a7 a8 a9 a10 a11 k
 have ih0 := q18z.mono_l k
 unfold q18z.f
 repeat' first
   | (with_reducible exact ih0 _ _ _ _ _ _ _ _ _ _ _ _ _)
   | (with_reducible exact q9z.mono _ _ _ _ _ _ _ _ _ _ _ _ _)
   | (with_reducible exact q14z.mono _)
   | (with_reducible exact q12z.mono _ _ _ _ _ _ _ _ _ _ _ _ _ _ _ _ _)
   | (with_reducible exact q17z.mono _ _ _ _ _)
   | (with_reducible exact LeO.refl _)
   | (with_reducible exact LeO.none _)
   | (with_reducible refine LeO.ite ?_ ?_)
   | (with_reducible refine LeO.bind ?_ (fun _ => ?_))
   | exact ih0 _ _ _ _ _ _ _ _ _ _ _ _ _
   | exact q9z.mono _ _ _ _ _ _ _ _ _ _ _ _ _
   | exact q14z.mono _
   | exact q12z.mono _ _ _ _ _ _ _ _ _ _ _ _ _ _ _ _ _
   | exact q17z.mono _ _ _ _ _
   | exact LeO.none _
   | refine LeO.ite ?_ ?_
   | refine LeO.bind ?_ (fun _ => ?_)
def q18z.T19 : Bool × List (List Nat × List Nat) := (true, [([], []), ([], []), ([0, 1], [0, 1]), ([2], [2]), ([3, 2], [3]), ([4], [4]), ([5, 4], [4, 5]), ([6, 4], [4, 6]), ([7, 4, 4], [4, 7]), ([8], [8]), ([8], [8]), ([9, 10, 8, 8], [8, 9, 10]), ([8], [8]), ([11, 12, 11, 8], [8, 11, 12]), ([13, 8], [8, 13]), ([8, 14, 4], [4, 8, 14]), ([4, 15], [4, 15]), ([16, 13, 0, 1, 2, 3, 4, 5, 6, 7, 8, 9, 10, 11, 12, 13, 14, 15, 16], [16])])
def q18z.B19 : List Nat := [0, 0, 3, 7, 15, 31, 63, 127, 255, 511, 511, 2047, 511, 8191, 16383, 32767, 65535, 131071]
theorem q18z.tab19 : rtab .any (opsOf Try.f5 19) = q18z.T19 := by kernel_rfl
theorem q18z.bits19 : waitsOk q18z.T19.2 q18z.B19 = true := by kernel_rfl
set_option maxHeartbeats 8000000 in
set_option maxRecDepth 100000 in
theorem q18z.calls (k : Nat) (a0_0 : Int) (a0_1 : Int) (A0_2 : Option Addr) (c0_2 : Nat) (l0_2 : List Int) (A0_3 : Option Addr) (c0_3 : Nat) (l0_3 : List (S53)) (a1_0 : Int) (a1_1 : Int) (A1_2 : Option Addr) (c1_2 : Nat) (l1_2 : List Int) (A1_3 : Option Addr) (c1_3 : Nat) (l1_3 : List Int) (a1_4 : Int) (a1_5 : Int) (a1_6 : Int) (a1_7 : Int) (r : Bool) (w : World) (hr0_2 : Kd.C (Kd.int .u32) w A0_2 l0_2.length l0_2) (hc0_2 : l0_2.length ≤ c0_2) (hr0_3 : Kd.C k53 w A0_3 l0_3.length l0_3) (hc0_3 : l0_3.length ≤ c0_3) (hr1_2 : Kd.C (Kd.int .u32) w A1_2 l1_2.length l1_2) (hc1_2 : l1_2.length ≤ c1_2) (hr1_3 : Kd.C (Kd.int .u32) w A1_3 l1_3.length l1_3) (hc1_3 : l1_3.length ≤ c1_3) (h : q18z.f k a0_0 a0_1 l0_2 l0_3 a1_0 a1_1 l1_2 l1_3 a1_4 a1_5 a1_6 a1_7 = some r) :
  Calls Try.prog 5 #[.agg #[.int .i64 a0_0, .int .u32 a0_1, .slice A0_2 l0_2.length c0_2, .slice A0_3 l0_3.length c0_3], .agg #[.int .u32 a1_0, .int .i64 a1_1, .slice A1_2 l1_2.length c1_2, .slice A1_3 l1_3.length c1_3, .int .u32 a1_4, .int .u32 a1_5, .int .i64 a1_6, .int .u32 a1_7]] w fun e w' => e = .returned (.bool r) ∧ Below w.heap.size w w' := by
 have hu26 := Try.underlying26
 have hu30 := Try.underlying30
 have HR0_2 := Aside0.mk hr0_2
 have HC0_2 := Aside0.mk hc0_2
 clear hr0_2 hc0_2
 have HR0_3 := Aside0.mk hr0_3
 have HC0_3 := Aside0.mk hc0_3
 clear hr0_3 hc0_3
 have HR1_2 := Aside0.mk hr1_2
 have HC1_2 := Aside0.mk hc1_2
 clear hr1_2 hc1_2
 have HR1_3 := Aside0.mk hr1_3
 have HC1_3 := Aside0.mk hc1_3
 clear hr1_3 hc1_3
 have HB := Aside0.mk (Below.refl w.heap.size w)
 have H : ((q14z.f k).bind fun t3 => (if t3 = true then ((q17z.f k a0_0 a0_1 l0_2 l0_3).bind fun t4 => (if t4 = true then (q18z.j0 k true a0_0 a0_1 l0_2 l0_3 a1_0 a1_1 l1_2 l1_3 a1_4 a1_5 a1_6 a1_7) else ((q1z.f a1_0 a1_1 l1_2 l1_3 a1_4 a1_5 a1_6 a1_7).bind fun t5 => (q18z.j0 k t5 a0_0 a0_1 l0_2 l0_3 a1_0 a1_1 l1_2 l1_3 a1_4 a1_5 a1_6 a1_7)))) else (some false))) = some r := h
 clear h
 replace H := Option.bind_eq_some_iff.mp H
 obtain ⟨t3, A30, H⟩ := H
 replace H : (if t3 = true then ((q17z.f k a0_0 a0_1 l0_2 l0_3).bind fun t4 => (if t4 = true then (q18z.j0 k true a0_0 a0_1 l0_2 l0_3 a1_0 a1_1 l1_2 l1_3 a1_4 a1_5 a1_6 a1_7) else ((q1z.f a1_0 a1_1 l1_2 l1_3 a1_4 a1_5 a1_6 a1_7).bind fun t5 => (q18z.j0 k t5 a0_0 a0_1 l0_2 l0_3 a1_0 a1_1 l1_2 l1_3 a1_4 a1_5 a1_6 a1_7)))) else (some false)) = some r := H
 have A3 := Aside0.mk A30
 clear A30
 by_cases c4 : t3 = true
 ·
  subst c4
  have H1 : ((q17z.f k a0_0 a0_1 l0_2 l0_3).bind fun t4 => (if t4 = true then (q18z.j0 k true a0_0 a0_1 l0_2 l0_3 a1_0 a1_1 l1_2 l1_3 a1_4 a1_5 a1_6 a1_7) else ((q1z.f a1_0 a1_1 l1_2 l1_3 a1_4 a1_5 a1_6 a1_7).bind fun t5 => (q18z.j0 k t5 a0_0 a0_1 l0_2 l0_3 a1_0 a1_1 l1_2 l1_3 a1_4 a1_5 a1_6 a1_7)))) = some r := by rw [if_pos rfl] at H; exact H
  clear H
  have H := H1
  clear H1
  have HC5 := Aside0.mk H
  clear H
  go_enter Try.func5, Try.ntmps5
  go_upto_region 3 with (first | ((with_reducible refine gate_dst (N := 2) rfl ?_); refine box_event ?hg (N := 2) ?hd (cs := #[.int .i64 a0_0, .int .u32 a0_1, .slice A0_2 l0_2.length c0_2, .slice A0_3 l0_3.length c0_3]) (t := 26) ?hr ?_; (case hd => rfl); (case hg => rfl); (case hr => first | (go_simp; done) | (go_simp; rfl)); intro gb1 hg w6 hbox hb; have BK1 := Aside0.mk (hbox); have GW1 := Aside0.mk ((by rw [hg]; exact (below_size (hbW HB)) : w.heap.size ≤ gb1)); have GE1 := Aside0.mk ((by rw [hg]; exact (below_size (hbW HB)) : w.heap.size ≤ gb1)); replace HB := hbS HB hb; clear hb hbox hg) | ((with_reducible refine gate_dst (N := 3) rfl ?_); refine box_event ?hg (N := 3) ?hd (cs := #[.int .u32 a1_0, .int .i64 a1_1, .slice A1_2 l1_2.length c1_2, .slice A1_3 l1_3.length c1_3, .int .u32 a1_4, .int .u32 a1_5, .int .i64 a1_6, .int .u32 a1_7]) (t := 30) ?hr ?_; (case hd => rfl); (case hg => rfl); (case hr => first | (go_simp; done) | (go_simp; rfl)); intro gb2 hg w7 hbox hb; have BK2 := Aside0.mk (hbox); have GW2 := Aside0.mk ((by rw [hg]; exact (below_size (hbW HB)) : w.heap.size ≤ gb2)); have GE2 := Aside0.mk ((by rw [hg]; exact (below_size (hbW HB)) : w.heap.size ≤ gb2)); have NB1_2 := Aside0.mk ((by rw [hg]; exact Nat.ne_of_lt (blk_lt (bkW BK1)) : gb1 ≠ gb2)); have NB2_1 := Aside0.mk ((by rw [hg]; exact Nat.ne_of_gt (blk_lt (bkW BK1)) : gb2 ≠ gb1)); replace BK1 := bkB BK1 hb; replace HB := hbS HB hb; clear hb hbox hg) | ((with_reducible refine gate_callee (f := 8) rfl ?_); refine goesL_ (some 7) rfl rfl Try.func8 (by kernel_rfl) rfl #[] rfl (by (try simp only [List.map_toArray, List.map_cons, List.map_nil]); first | done | rfl | (simp only [List.length_drop, List.length_take]; rfl)) ?_; (with_reducible refine (q14z.calls k  true _ A3.out).mono ?_); rintro e w8 ⟨rfl, hb⟩; refine ⟨_, rfl, ?_⟩; replace BK1 := bkB BK1 hb; replace BK2 := bkB BK2 hb; replace HB := hbS HB hb; (try clear hb)))
  (try simp only [Act.put, List.setIfInBounds_toArray, List.set_cons_zero, List.set_cons_succ])
  go_cut [14] (fun v14 wc => ∃ (kq : Nat) (x14_4 : Bool), v14 = .bool x14_4 ∧ Aside0 (q18z.j0 kq x14_4 a0_0 a0_1 l0_2 l0_3 a1_0 a1_1 l1_2 l1_3 a1_4 a1_5 a1_6 a1_7 = some r) ∧ Aside0 (kq ≤ k) ∧ Aside0 (wc.heap[gb1]? = some (.cells #[.int .i64 a0_0, .int .u32 a0_1, (.slice A0_2 l0_2.length c0_2), (.slice A0_3 l0_3.length c0_3)] 26 (0, 0))) ∧ Aside0 (wc.heap[gb2]? = some (.cells #[.int .u32 a1_0, .int .i64 a1_1, (.slice A1_2 l1_2.length c1_2), (.slice A1_3 l1_3.length c1_3), .int .u32 a1_4, .int .u32 a1_5, .int .i64 a1_6, .int .u32 a1_7] 30 (0, 0))) ∧ Aside0 (Below w.heap.size w wc))
  case first =>
   have H := HC5.out
   clear HC5
   replace H := Option.bind_eq_some_iff.mp H
   obtain ⟨t4, A90, H⟩ := H
   replace H : (if t4 = true then (q18z.j0 k true a0_0 a0_1 l0_2 l0_3 a1_0 a1_1 l1_2 l1_3 a1_4 a1_5 a1_6 a1_7) else ((q1z.f a1_0 a1_1 l1_2 l1_3 a1_4 a1_5 a1_6 a1_7).bind fun t5 => (q18z.j0 k t5 a0_0 a0_1 l0_2 l0_3 a1_0 a1_1 l1_2 l1_3 a1_4 a1_5 a1_6 a1_7))) = some r := H
   have A9 := Aside0.mk A90
   clear A90
   by_cases c10 : t4 = true
   ·
    subst c10
    have H1 : (q18z.j0 k true a0_0 a0_1 l0_2 l0_3 a1_0 a1_1 l1_2 l1_3 a1_4 a1_5 a1_6 a1_7) = some r := by rw [if_pos rfl] at H; exact H
    clear H
    have H := H1
    clear H1
    have H' := Aside0.mk H
    clear H
    have hnb11 := NB1_2.out
    have hnc11 := NB2_1.out
    obtain ⟨hcz12_0, hcz12_1, hcz12_2, hcz12_3, hfz12_0, hfz12_1, hfz12_2, hfz12_3⟩ := bc4 BK1
    go_wp2_with (first | ((with_reducible refine gate_callee (f := 9) rfl ?_); refine goesL_ (some 10) rfl rfl Try.func9 (by kernel_rfl) rfl #[.agg #[.int .i64 a0_0, .int .u32 a0_1, .slice A0_2 l0_2.length c0_2, .slice A0_3 l0_3.length c0_3]] rfl (by (try simp only [List.map_toArray, List.map_cons, List.map_nil]); first | done | rfl | (simp only [List.length_drop, List.length_take]; rfl)) ?_; (with_reducible refine (q17z.calls k a0_0 a0_1 _ _ l0_2 _ _ l0_3 true _ ?side1 ?side2 ?side3 ?side4 A9.out).mono ?_); (case side1 => repeat (first | exact (Kd.C_below HR0_2.out HB.out) | (with_reducible refine Kd.C_alloc ?_ _) | (with_reducible refine Kd.C_drewN ?_ _) | (with_reducible refine Kd.C_drew ?_))); (case side2 => exact HC0_2.out); (case side3 => repeat (first | exact (Kd.C_below HR0_3.out HB.out) | (with_reducible refine Kd.C_alloc ?_ _) | (with_reducible refine Kd.C_drewN ?_ _) | (with_reducible refine Kd.C_drew ?_))); (case side4 => exact HC0_3.out); rintro e w13 ⟨rfl, hb⟩; refine ⟨_, rfl, ?_⟩; replace BK1 := bkB BK1 hb; replace BK2 := bkB BK2 hb; replace HB := hbS HB hb; (try clear hb)))
    go_meet
    case rel => exact ⟨_, (true), (by first | rfl | (simp; done) | (simp [*]; done)), H', ⟨by first | omega | exact Nat.le_refl _⟩, ⟨by (with_reducible repeat (first | refine blk_drewN ?_ _ | refine blk_drew ?_ | refine blk_alloc ?_ _)); exact BK1.out⟩, ⟨by (with_reducible repeat (first | refine blk_drewN ?_ _ | refine blk_drew ?_ | refine blk_alloc ?_ _)); exact BK2.out⟩, ⟨hbW HB⟩⟩
   ·
    replace c10 := Bool.eq_false_iff.mpr c10
    subst c10
    have H1 : ((q1z.f a1_0 a1_1 l1_2 l1_3 a1_4 a1_5 a1_6 a1_7).bind fun t5 => (q18z.j0 k t5 a0_0 a0_1 l0_2 l0_3 a1_0 a1_1 l1_2 l1_3 a1_4 a1_5 a1_6 a1_7)) = some r := by rw [if_neg (show ¬ (false = true) by decide)] at H; exact H
    clear H
    have H := H1
    clear H1
    replace H := Option.bind_eq_some_iff.mp H
    obtain ⟨t5, A140, H⟩ := H
    replace H : (q18z.j0 k t5 a0_0 a0_1 l0_2 l0_3 a1_0 a1_1 l1_2 l1_3 a1_4 a1_5 a1_6 a1_7) = some r := H
    have A14 := Aside0.mk A140
    clear A140
    have H' := Aside0.mk H
    clear H
    have hnb15 := NB1_2.out
    have hnc15 := NB2_1.out
    obtain ⟨hcz16_0, hcz16_1, hcz16_2, hcz16_3, hfz16_0, hfz16_1, hfz16_2, hfz16_3⟩ := bc4 BK1
    go_wp2_with (first | ((with_reducible refine gate_callee (f := 9) rfl ?_); refine goesL_ (some 10) rfl rfl Try.func9 (by kernel_rfl) rfl #[.agg #[.int .i64 a0_0, .int .u32 a0_1, .slice A0_2 l0_2.length c0_2, .slice A0_3 l0_3.length c0_3]] rfl (by (try simp only [List.map_toArray, List.map_cons, List.map_nil]); first | done | rfl | (simp only [List.length_drop, List.length_take]; rfl)) ?_; (with_reducible refine (q17z.calls k a0_0 a0_1 _ _ l0_2 _ _ l0_3 false _ ?side1 ?side2 ?side3 ?side4 A9.out).mono ?_); (case side1 => repeat (first | exact (Kd.C_below HR0_2.out HB.out) | (with_reducible refine Kd.C_alloc ?_ _) | (with_reducible refine Kd.C_drewN ?_ _) | (with_reducible refine Kd.C_drew ?_))); (case side2 => exact HC0_2.out); (case side3 => repeat (first | exact (Kd.C_below HR0_3.out HB.out) | (with_reducible refine Kd.C_alloc ?_ _) | (with_reducible refine Kd.C_drewN ?_ _) | (with_reducible refine Kd.C_drew ?_))); (case side4 => exact HC0_3.out); rintro e w17 ⟨rfl, hb⟩; refine ⟨_, rfl, ?_⟩; replace BK1 := bkB BK1 hb; replace BK2 := bkB BK2 hb; replace HB := hbS HB hb; (try clear hb); obtain ⟨hcz18_0, hcz18_1, hcz18_2, hcz18_3, hcz18_4, hcz18_5, hcz18_6, hcz18_7, hfz18_0, hfz18_1, hfz18_2, hfz18_3, hfz18_4, hfz18_5, hfz18_6, hfz18_7⟩ := bc8 BK2) | (go_at_call 10; (with_reducible refine (q1z.calls a1_0 a1_1 _ _ l1_2 _ _ l1_3 a1_4 a1_5 a1_6 a1_7 t5 _ ?side1 ?side2 ?side3 ?side4 A14.out).mono ?_); (case side1 => repeat (first | exact (Kd.C_below HR1_2.out HB.out) | (with_reducible refine Kd.C_alloc ?_ _) | (with_reducible refine Kd.C_drewN ?_ _) | (with_reducible refine Kd.C_drew ?_))); (case side2 => exact HC1_2.out); (case side3 => repeat (first | exact (Kd.C_below HR1_3.out HB.out) | (with_reducible refine Kd.C_alloc ?_ _) | (with_reducible refine Kd.C_drewN ?_ _) | (with_reducible refine Kd.C_drew ?_))); (case side4 => exact HC1_3.out); rintro e w19 ⟨rfl, hb⟩; replace BK1 := bkB BK1 hb; replace BK2 := bkB BK2 hb; replace HB := hbS HB hb; (try clear hb)))
    go_meet
    case rel => exact ⟨_, (t5), (by first | rfl | (simp; done) | (simp [*]; done)), H', ⟨by first | omega | exact Nat.le_refl _⟩, ⟨by (with_reducible repeat (first | refine blk_drewN ?_ _ | refine blk_drew ?_ | refine blk_alloc ?_ _)); exact BK1.out⟩, ⟨by (with_reducible repeat (first | refine blk_drewN ?_ _ | refine blk_drew ?_ | refine blk_alloc ?_ _)); exact BK2.out⟩, ⟨hbW HB⟩⟩
  case rest =>
   clear HC5
   try clear c1
   try clear p2
   try clear c4
   try clear c5
   try clear c8
   try clear c9
   try clear c10
   try clear c11
   try clear c15
   obtain ⟨kq, x14_4, rfl, HA, HJ4, BK1, BK2, HB⟩ := hcut
   cases kq with
   | zero => exact absurd HA.out (by simp [q18z.j0])
   | succ kj4 =>
    have H := HA.out
    clear HA
    simp only [q18z.j0] at H
    by_cases c20 : x14_4 = true
    ·
     subst c20
     have H1 : (some true) = some r := by rw [if_pos rfl] at H; exact H
     clear H
     have H := H1
     clear H1
     obtain rfl := Option.some.inj H
     go_wp2
     go_ret
     exact ⟨by first | rfl | (simp [errW_none, errW_some] <;> rfl) | (simp [*, errW_none, errW_some] <;> rfl), hbW HB⟩
    ·
     replace c20 := Bool.eq_false_iff.mpr c20
     subst c20
     have H1 : ((q9z.f kj4 a0_0 a0_1 l0_2 l0_3 a1_0 a1_1 l1_2 l1_3 a1_4 a1_5 a1_6 a1_7).bind fun bt6 => ((q2z.f bt6.1 bt6.2.1 bt6.2.2.1 bt6.2.2.2.1 bt6.2.2.2.2.1 bt6.2.2.2.2.2.1 bt6.2.2.2.2.2.2.1 bt6.2.2.2.2.2.2.2).bind fun bt19 => (if a0_0 = 1 then ((q12z.f kj4 bt19.1 bt19.2.1 bt19.2.2.1 bt19.2.2.2.1 a1_4 bt19.2.2.2.2.2.1 bt19.2.2.2.2.2.2.1 bt19.2.2.2.2.2.2.2 a1_0 a1_1 l1_2 l1_3 a1_4 a1_5 a1_6 a1_7).bind fun t32 => (if t32 = 0 then (if a0_0 = 5 then (some true) else ((q9z.f kj4 a0_0 a0_1 l0_2 l0_3 bt6.1 bt6.2.1 bt6.2.2.1 bt6.2.2.2.1 bt6.2.2.2.2.1 bt6.2.2.2.2.2.1 bt6.2.2.2.2.2.2.1 bt6.2.2.2.2.2.2.2).bind fun bt33 => ((q12z.f kj4 bt33.1 bt33.2.1 bt33.2.2.1 bt33.2.2.2.1 bt33.2.2.2.2.1 bt33.2.2.2.2.2.1 bt33.2.2.2.2.2.2.1 bt33.2.2.2.2.2.2.2 bt6.1 bt6.2.1 bt6.2.2.1 bt6.2.2.2.1 bt6.2.2.2.2.1 bt6.2.2.2.2.2.1 bt6.2.2.2.2.2.2.1 bt6.2.2.2.2.2.2.2).bind fun t45 => (some (t45 == 0))))) else (some false))) else (if a0_0 = 2 then ((q12z.f kj4 bt19.1 bt19.2.1 bt19.2.2.1 bt19.2.2.2.1 bt19.2.2.2.2.1 a1_5 bt19.2.2.2.2.2.2.1 bt19.2.2.2.2.2.2.2 a1_0 a1_1 l1_2 l1_3 a1_4 a1_5 a1_6 a1_7).bind fun t46 => (if t46 = 0 then (if a0_0 = 5 then (some true) else ((q9z.f kj4 a0_0 a0_1 l0_2 l0_3 bt6.1 bt6.2.1 bt6.2.2.1 bt6.2.2.2.1 bt6.2.2.2.2.1 bt6.2.2.2.2.2.1 bt6.2.2.2.2.2.2.1 bt6.2.2.2.2.2.2.2).bind fun bt47 => ((q12z.f kj4 bt47.1 bt47.2.1 bt47.2.2.1 bt47.2.2.2.1 bt47.2.2.2.2.1 bt47.2.2.2.2.2.1 bt47.2.2.2.2.2.2.1 bt47.2.2.2.2.2.2.2 bt6.1 bt6.2.1 bt6.2.2.1 bt6.2.2.2.1 bt6.2.2.2.2.1 bt6.2.2.2.2.2.1 bt6.2.2.2.2.2.2.1 bt6.2.2.2.2.2.2.2).bind fun t59 => (some (t59 == 0))))) else (some false))) else (if a0_0 = 3 then ((q12z.f kj4 bt19.1 bt19.2.1 bt19.2.2.1 bt19.2.2.2.1 bt19.2.2.2.2.1 bt19.2.2.2.2.2.1 a1_6 bt19.2.2.2.2.2.2.2 a1_0 a1_1 l1_2 l1_3 a1_4 a1_5 a1_6 a1_7).bind fun t60 => (if t60 = 0 then (if a0_0 = 5 then (some true) else ((q9z.f kj4 a0_0 a0_1 l0_2 l0_3 bt6.1 bt6.2.1 bt6.2.2.1 bt6.2.2.2.1 bt6.2.2.2.2.1 bt6.2.2.2.2.2.1 bt6.2.2.2.2.2.2.1 bt6.2.2.2.2.2.2.2).bind fun bt61 => ((q12z.f kj4 bt61.1 bt61.2.1 bt61.2.2.1 bt61.2.2.2.1 bt61.2.2.2.2.1 bt61.2.2.2.2.2.1 bt61.2.2.2.2.2.2.1 bt61.2.2.2.2.2.2.2 bt6.1 bt6.2.1 bt6.2.2.1 bt6.2.2.2.1 bt6.2.2.2.2.1 bt6.2.2.2.2.2.1 bt6.2.2.2.2.2.2.1 bt6.2.2.2.2.2.2.2).bind fun t73 => (some (t73 == 0))))) else (some false))) else (if a0_0 = 4 then ((q12z.f kj4 bt19.1 bt19.2.1 bt19.2.2.1 bt19.2.2.2.1 bt19.2.2.2.2.1 bt19.2.2.2.2.2.1 bt19.2.2.2.2.2.2.1 a1_7 a1_0 a1_1 l1_2 l1_3 a1_4 a1_5 a1_6 a1_7).bind fun t74 => (if t74 = 0 then (if a0_0 = 5 then (some true) else ((q9z.f kj4 a0_0 a0_1 l0_2 l0_3 bt6.1 bt6.2.1 bt6.2.2.1 bt6.2.2.2.1 bt6.2.2.2.2.1 bt6.2.2.2.2.2.1 bt6.2.2.2.2.2.2.1 bt6.2.2.2.2.2.2.2).bind fun bt75 => ((q12z.f kj4 bt75.1 bt75.2.1 bt75.2.2.1 bt75.2.2.2.1 bt75.2.2.2.2.1 bt75.2.2.2.2.2.1 bt75.2.2.2.2.2.2.1 bt75.2.2.2.2.2.2.2 bt6.1 bt6.2.1 bt6.2.2.1 bt6.2.2.2.1 bt6.2.2.2.2.1 bt6.2.2.2.2.2.1 bt6.2.2.2.2.2.2.1 bt6.2.2.2.2.2.2.2).bind fun t87 => (some (t87 == 0))))) else (some false))) else (if a0_0 = 5 then ((q12z.f kj4 bt19.1 bt19.2.1 l1_2 bt19.2.2.2.1 bt19.2.2.2.2.1 bt19.2.2.2.2.2.1 bt19.2.2.2.2.2.2.1 bt19.2.2.2.2.2.2.2 a1_0 a1_1 l1_2 l1_3 a1_4 a1_5 a1_6 a1_7).bind fun t88 => (if t88 = 0 then (some true) else (some false))) else ((q12z.f kj4 bt19.1 bt19.2.1 bt19.2.2.1 l1_3 bt19.2.2.2.2.1 bt19.2.2.2.2.2.1 bt19.2.2.2.2.2.2.1 bt19.2.2.2.2.2.2.2 a1_0 a1_1 l1_2 l1_3 a1_4 a1_5 a1_6 a1_7).bind fun t89 => (if t89 = 0 then ((q9z.f kj4 a0_0 a0_1 l0_2 l0_3 bt6.1 bt6.2.1 bt6.2.2.1 bt6.2.2.2.1 bt6.2.2.2.2.1 bt6.2.2.2.2.2.1 bt6.2.2.2.2.2.2.1 bt6.2.2.2.2.2.2.2).bind fun bt90 => ((q12z.f kj4 bt90.1 bt90.2.1 bt90.2.2.1 bt90.2.2.2.1 bt90.2.2.2.2.1 bt90.2.2.2.2.2.1 bt90.2.2.2.2.2.2.1 bt90.2.2.2.2.2.2.2 bt6.1 bt6.2.1 bt6.2.2.1 bt6.2.2.2.1 bt6.2.2.2.2.1 bt6.2.2.2.2.2.1 bt6.2.2.2.2.2.2.1 bt6.2.2.2.2.2.2.2).bind fun t102 => (some (t102 == 0)))) else (some false)))))))))) = some r := by rw [if_neg (show ¬ (false = true) by decide)] at H; exact H
     clear H
     have H := H1
     clear H1
     replace H := Option.bind_eq_some_iff.mp H
     obtain ⟨⟨t6, t7, t8, t11, t14, t15, t16, t17⟩, A210, H⟩ := H
     replace H : ((q2z.f t6 t7 t8 t11 t14 t15 t16 t17).bind fun bt19 => (if a0_0 = 1 then ((q12z.f kj4 bt19.1 bt19.2.1 bt19.2.2.1 bt19.2.2.2.1 a1_4 bt19.2.2.2.2.2.1 bt19.2.2.2.2.2.2.1 bt19.2.2.2.2.2.2.2 a1_0 a1_1 l1_2 l1_3 a1_4 a1_5 a1_6 a1_7).bind fun t32 => (if t32 = 0 then (if a0_0 = 5 then (some true) else ((q9z.f kj4 a0_0 a0_1 l0_2 l0_3 t6 t7 t8 t11 t14 t15 t16 t17).bind fun bt33 => ((q12z.f kj4 bt33.1 bt33.2.1 bt33.2.2.1 bt33.2.2.2.1 bt33.2.2.2.2.1 bt33.2.2.2.2.2.1 bt33.2.2.2.2.2.2.1 bt33.2.2.2.2.2.2.2 t6 t7 t8 t11 t14 t15 t16 t17).bind fun t45 => (some (t45 == 0))))) else (some false))) else (if a0_0 = 2 then ((q12z.f kj4 bt19.1 bt19.2.1 bt19.2.2.1 bt19.2.2.2.1 bt19.2.2.2.2.1 a1_5 bt19.2.2.2.2.2.2.1 bt19.2.2.2.2.2.2.2 a1_0 a1_1 l1_2 l1_3 a1_4 a1_5 a1_6 a1_7).bind fun t46 => (if t46 = 0 then (if a0_0 = 5 then (some true) else ((q9z.f kj4 a0_0 a0_1 l0_2 l0_3 t6 t7 t8 t11 t14 t15 t16 t17).bind fun bt47 => ((q12z.f kj4 bt47.1 bt47.2.1 bt47.2.2.1 bt47.2.2.2.1 bt47.2.2.2.2.1 bt47.2.2.2.2.2.1 bt47.2.2.2.2.2.2.1 bt47.2.2.2.2.2.2.2 t6 t7 t8 t11 t14 t15 t16 t17).bind fun t59 => (some (t59 == 0))))) else (some false))) else (if a0_0 = 3 then ((q12z.f kj4 bt19.1 bt19.2.1 bt19.2.2.1 bt19.2.2.2.1 bt19.2.2.2.2.1 bt19.2.2.2.2.2.1 a1_6 bt19.2.2.2.2.2.2.2 a1_0 a1_1 l1_2 l1_3 a1_4 a1_5 a1_6 a1_7).bind fun t60 => (if t60 = 0 then (if a0_0 = 5 then (some true) else ((q9z.f kj4 a0_0 a0_1 l0_2 l0_3 t6 t7 t8 t11 t14 t15 t16 t17).bind fun bt61 => ((q12z.f kj4 bt61.1 bt61.2.1 bt61.2.2.1 bt61.2.2.2.1 bt61.2.2.2.2.1 bt61.2.2.2.2.2.1 bt61.2.2.2.2.2.2.1 bt61.2.2.2.2.2.2.2 t6 t7 t8 t11 t14 t15 t16 t17).bind fun t73 => (some (t73 == 0))))) else (some false))) else (if a0_0 = 4 then ((q12z.f kj4 bt19.1 bt19.2.1 bt19.2.2.1 bt19.2.2.2.1 bt19.2.2.2.2.1 bt19.2.2.2.2.2.1 bt19.2.2.2.2.2.2.1 a1_7 a1_0 a1_1 l1_2 l1_3 a1_4 a1_5 a1_6 a1_7).bind fun t74 => (if t74 = 0 then (if a0_0 = 5 then (some true) else ((q9z.f kj4 a0_0 a0_1 l0_2 l0_3 t6 t7 t8 t11 t14 t15 t16 t17).bind fun bt75 => ((q12z.f kj4 bt75.1 bt75.2.1 bt75.2.2.1 bt75.2.2.2.1 bt75.2.2.2.2.1 bt75.2.2.2.2.2.1 bt75.2.2.2.2.2.2.1 bt75.2.2.2.2.2.2.2 t6 t7 t8 t11 t14 t15 t16 t17).bind fun t87 => (some (t87 == 0))))) else (some false))) else (if a0_0 = 5 then ((q12z.f kj4 bt19.1 bt19.2.1 l1_2 bt19.2.2.2.1 bt19.2.2.2.2.1 bt19.2.2.2.2.2.1 bt19.2.2.2.2.2.2.1 bt19.2.2.2.2.2.2.2 a1_0 a1_1 l1_2 l1_3 a1_4 a1_5 a1_6 a1_7).bind fun t88 => (if t88 = 0 then (some true) else (some false))) else ((q12z.f kj4 bt19.1 bt19.2.1 bt19.2.2.1 l1_3 bt19.2.2.2.2.1 bt19.2.2.2.2.2.1 bt19.2.2.2.2.2.2.1 bt19.2.2.2.2.2.2.2 a1_0 a1_1 l1_2 l1_3 a1_4 a1_5 a1_6 a1_7).bind fun t89 => (if t89 = 0 then ((q9z.f kj4 a0_0 a0_1 l0_2 l0_3 t6 t7 t8 t11 t14 t15 t16 t17).bind fun bt90 => ((q12z.f kj4 bt90.1 bt90.2.1 bt90.2.2.1 bt90.2.2.2.1 bt90.2.2.2.2.1 bt90.2.2.2.2.2.1 bt90.2.2.2.2.2.2.1 bt90.2.2.2.2.2.2.2 t6 t7 t8 t11 t14 t15 t16 t17).bind fun t102 => (some (t102 == 0)))) else (some false))))))))) = some r := H
     have A21 := Aside0.mk A210
     clear A210
     replace H := Option.bind_eq_some_iff.mp H
     obtain ⟨⟨t19, t20, t21, t24, t27, t28, t29, t30⟩, A220, H⟩ := H
     replace H : (if a0_0 = 1 then ((q12z.f kj4 t19 t20 t21 t24 a1_4 t28 t29 t30 a1_0 a1_1 l1_2 l1_3 a1_4 a1_5 a1_6 a1_7).bind fun t32 => (if t32 = 0 then (if a0_0 = 5 then (some true) else ((q9z.f kj4 a0_0 a0_1 l0_2 l0_3 t6 t7 t8 t11 t14 t15 t16 t17).bind fun bt33 => ((q12z.f kj4 bt33.1 bt33.2.1 bt33.2.2.1 bt33.2.2.2.1 bt33.2.2.2.2.1 bt33.2.2.2.2.2.1 bt33.2.2.2.2.2.2.1 bt33.2.2.2.2.2.2.2 t6 t7 t8 t11 t14 t15 t16 t17).bind fun t45 => (some (t45 == 0))))) else (some false))) else (if a0_0 = 2 then ((q12z.f kj4 t19 t20 t21 t24 t27 a1_5 t29 t30 a1_0 a1_1 l1_2 l1_3 a1_4 a1_5 a1_6 a1_7).bind fun t46 => (if t46 = 0 then (if a0_0 = 5 then (some true) else ((q9z.f kj4 a0_0 a0_1 l0_2 l0_3 t6 t7 t8 t11 t14 t15 t16 t17).bind fun bt47 => ((q12z.f kj4 bt47.1 bt47.2.1 bt47.2.2.1 bt47.2.2.2.1 bt47.2.2.2.2.1 bt47.2.2.2.2.2.1 bt47.2.2.2.2.2.2.1 bt47.2.2.2.2.2.2.2 t6 t7 t8 t11 t14 t15 t16 t17).bind fun t59 => (some (t59 == 0))))) else (some false))) else (if a0_0 = 3 then ((q12z.f kj4 t19 t20 t21 t24 t27 t28 a1_6 t30 a1_0 a1_1 l1_2 l1_3 a1_4 a1_5 a1_6 a1_7).bind fun t60 => (if t60 = 0 then (if a0_0 = 5 then (some true) else ((q9z.f kj4 a0_0 a0_1 l0_2 l0_3 t6 t7 t8 t11 t14 t15 t16 t17).bind fun bt61 => ((q12z.f kj4 bt61.1 bt61.2.1 bt61.2.2.1 bt61.2.2.2.1 bt61.2.2.2.2.1 bt61.2.2.2.2.2.1 bt61.2.2.2.2.2.2.1 bt61.2.2.2.2.2.2.2 t6 t7 t8 t11 t14 t15 t16 t17).bind fun t73 => (some (t73 == 0))))) else (some false))) else (if a0_0 = 4 then ((q12z.f kj4 t19 t20 t21 t24 t27 t28 t29 a1_7 a1_0 a1_1 l1_2 l1_3 a1_4 a1_5 a1_6 a1_7).bind fun t74 => (if t74 = 0 then (if a0_0 = 5 then (some true) else ((q9z.f kj4 a0_0 a0_1 l0_2 l0_3 t6 t7 t8 t11 t14 t15 t16 t17).bind fun bt75 => ((q12z.f kj4 bt75.1 bt75.2.1 bt75.2.2.1 bt75.2.2.2.1 bt75.2.2.2.2.1 bt75.2.2.2.2.2.1 bt75.2.2.2.2.2.2.1 bt75.2.2.2.2.2.2.2 t6 t7 t8 t11 t14 t15 t16 t17).bind fun t87 => (some (t87 == 0))))) else (some false))) else (if a0_0 = 5 then ((q12z.f kj4 t19 t20 l1_2 t24 t27 t28 t29 t30 a1_0 a1_1 l1_2 l1_3 a1_4 a1_5 a1_6 a1_7).bind fun t88 => (if t88 = 0 then (some true) else (some false))) else ((q12z.f kj4 t19 t20 t21 l1_3 t27 t28 t29 t30 a1_0 a1_1 l1_2 l1_3 a1_4 a1_5 a1_6 a1_7).bind fun t89 => (if t89 = 0 then ((q9z.f kj4 a0_0 a0_1 l0_2 l0_3 t6 t7 t8 t11 t14 t15 t16 t17).bind fun bt90 => ((q12z.f kj4 bt90.1 bt90.2.1 bt90.2.2.1 bt90.2.2.2.1 bt90.2.2.2.2.1 bt90.2.2.2.2.2.1 bt90.2.2.2.2.2.2.1 bt90.2.2.2.2.2.2.2 t6 t7 t8 t11 t14 t15 t16 t17).bind fun t102 => (some (t102 == 0)))) else (some false)))))))) = some r := H
     have A22 := Aside0.mk A220
     clear A220
     have HH_ := Aside0.mk H
     clear H
     have hnb27 := NB1_2.out
     have hnc27 := NB2_1.out
     obtain ⟨hcz28_0, hcz28_1, hcz28_2, hcz28_3, hfz28_0, hfz28_1, hfz28_2, hfz28_3⟩ := bc4 BK1
     obtain ⟨hcz29_0, hcz29_1, hcz29_2, hcz29_3, hcz29_4, hcz29_5, hcz29_6, hcz29_7, hfz29_0, hfz29_1, hfz29_2, hfz29_3, hfz29_4, hfz29_5, hfz29_6, hfz29_7⟩ := bc8 BK2
     go_upto_block 0 with (first | ((with_reducible refine gate_callee (f := 13) rfl ?_); refine goesL_ (some 17) rfl rfl Try.func13 (by kernel_rfl) rfl #[.agg #[.int .i64 a0_0, .int .u32 a0_1, .slice A0_2 l0_2.length c0_2, .slice A0_3 l0_3.length c0_3], .agg #[.int .u32 a1_0, .int .i64 a1_1, .slice A1_2 l1_2.length c1_2, .slice A1_3 l1_3.length c1_3, .int .u32 a1_4, .int .u32 a1_5, .int .i64 a1_6, .int .u32 a1_7]] rfl (by (try simp only [List.map_toArray, List.map_cons, List.map_nil]); first | done | rfl | (simp only [List.length_drop, List.length_take]; rfl)) ?_; (with_reducible refine (q9z.calls kj4 a0_0 a0_1 (fun k_ => k_ < w.heap.size) _ _ l0_2 _ _ l0_3 a1_0 a1_1 _ _ l1_2 _ _ l1_3 a1_4 a1_5 a1_6 a1_7 t6 t7 t8 t11 t14 t15 t16 t17 _ ?side1 ?side2 ?side3 ?side4 ?side5 ?side6 ?side7 A21.out).mono ?_); (case side1 => exact Kd.V_mk HC0_2.out (Kd.F_below (Kd.C_F (Kd.heap_int .u32) HR0_2.out) (hbW HB))); (case side2 => repeat (first | exact (Kd.C_below HR0_3.out HB.out) | (with_reducible refine Kd.C_alloc ?_ _) | (with_reducible refine Kd.C_drewN ?_ _) | (with_reducible refine Kd.C_drew ?_))); (case side3 => exact HC0_3.out); (case side4 => repeat (first | exact (Kd.C_below HR1_2.out HB.out) | (with_reducible refine Kd.C_alloc ?_ _) | (with_reducible refine Kd.C_drewN ?_ _) | (with_reducible refine Kd.C_drew ?_))); (case side5 => exact HC1_2.out); (case side6 => repeat (first | exact (Kd.C_below HR1_3.out HB.out) | (with_reducible refine Kd.C_alloc ?_ _) | (with_reducible refine Kd.C_drewN ?_ _) | (with_reducible refine Kd.C_drew ?_))); (case side7 => exact HC1_3.out); rintro e w30 ⟨v9, v12, rfl, ho0, ho1, hb⟩; refine ⟨_, rfl, ?_⟩; have HO10 := Aside0.mk (Kd.R_lower (Kd.R_mono (ok' := fun k_ => some k_ ≠ (v12 : Value).ownBlock) ho0 (fun _ hk_ => hk_.2)) (below_size (hbW HB))); have HO13 := Aside0.mk (Kd.R_lower (Kd.R_mono (ok' := fun k_ => some k_ ≠ (v9 : Value).ownBlock) ho1 (fun _ hk_ => hk_.2)) (below_size (hbW HB))); replace BK1 := bkB BK1 hb; replace BK2 := bkB BK2 hb; replace HB := hbS HB hb; (try clear hb); (try clear ho0); (try clear ho1)) | ((with_reducible refine gate_dst (N := 5) rfl ?_); refine box_event ?hg (N := 5) ?hd (cs := #[.int .u32 0, .int .i64 0, .slice none 0 0, .slice none 0 0, .int .u32 0, .int .u32 0, .int .i64 0, .int .u32 0]) (t := 30) ?hr ?_; (case hd => rfl); (case hg => rfl); (case hr => first | (go_simp; done) | (go_simp; rfl)); intro gb18 hg w31 hbox hb; have BK18 := Aside0.mk (hbox); have GW18 := Aside0.mk ((by rw [hg]; exact (below_size (hbW HB)) : w.heap.size ≤ gb18)); have GE18 := Aside0.mk ((by rw [hg]; exact (below_size (hbW HB)) : w.heap.size ≤ gb18)); have NB1_18 := Aside0.mk ((by rw [hg]; exact Nat.ne_of_lt (blk_lt (bkW BK1)) : gb1 ≠ gb18)); have NB18_1 := Aside0.mk ((by rw [hg]; exact Nat.ne_of_gt (blk_lt (bkW BK1)) : gb18 ≠ gb1)); have NB2_18 := Aside0.mk ((by rw [hg]; exact Nat.ne_of_lt (blk_lt (bkW BK2)) : gb2 ≠ gb18)); have NB18_2 := Aside0.mk ((by rw [hg]; exact Nat.ne_of_gt (blk_lt (bkW BK2)) : gb18 ≠ gb2)); replace HO10 := Aside0.mk (Kd.R_below (rW HO10) hb); replace HO13 := Aside0.mk (Kd.R_below (rW HO13) hb); replace BK1 := bkB BK1 hb; replace BK2 := bkB BK2 hb; replace HB := hbS HB hb; clear hb hbox hg; have hnb32 := NB18_1.out; have hnc32 := NB1_18.out; have hnb33 := NB18_2.out; have hnc33 := NB2_18.out; obtain ⟨hcz34_0, hcz34_1, hcz34_2, hcz34_3, hcz34_4, hcz34_5, hcz34_6, hcz34_7, hfz34_0, hfz34_1, hfz34_2, hfz34_3, hfz34_4, hfz34_5, hfz34_6, hfz34_7⟩ := bc8 BK18; obtain ⟨Ao35, co35, eo35⟩ := Kd.R_slice HO10.out; subst eo35; obtain ⟨Ao36, co36, eo36⟩ := Kd.R_slice HO13.out; subst eo36) | ((with_reducible refine gate_callee (f := 12) rfl ?_); refine goesL_ (some 19) rfl rfl Try.func12 (by kernel_rfl) rfl #[.agg #[.int .u32 t6, .int .i64 t7, .slice Ao35 t8.length co35, .slice Ao36 t11.length co36, .int .u32 t14, .int .u32 t15, .int .i64 t16, .int .u32 t17]] rfl (by (try simp only [List.map_toArray, List.map_cons, List.map_nil]); first | done | rfl | (simp only [List.length_drop, List.length_take]; rfl)) ?_; (with_reducible refine (q2z.calls t6 t7 _ _ t8 _ _ t11 t14 t15 t16 t17 t19 t20 t21 t24 t27 t28 t29 t30 _ ?side1 ?side2 ?side3 ?side4 A22.out).mono ?_); (case side1 => refine (Kd.R_reads' (e := 22) (base := w.heap.size) (ok := fun k_ => some k_ ≠ (.slice Ao36 t11.length co36 : Value).ownBlock) (n := t8.length) (c := co35) ?_).2.2; exact (rW HO10)); (case side2 => exact (Kd.R_reads' HO10.out).2.1); (case side3 => refine (Kd.R_reads' (e := 22) (base := w.heap.size) (ok := fun k_ => some k_ ≠ (.slice Ao35 t8.length co35 : Value).ownBlock) (n := t11.length) (c := co36) ?_).2.2; exact (rW HO13)); (case side4 => exact (Kd.R_reads' HO13.out).2.1); rintro e w37 ⟨v22, v25, rfl, ho0, ho1, hb⟩; refine ⟨_, rfl, ?_⟩; have HO23 := Aside0.mk (Kd.R_lower (Kd.R_new' (Kd.R_new' ho0 (Kd.R_lt (rW HO10))) (Kd.R_lt (rW HO13))) (below_size (hbW HB))); have HO26 := Aside0.mk (Kd.R_lower (Kd.R_new' (Kd.R_new' ho1 (Kd.R_lt (rW HO10))) (Kd.R_lt (rW HO13))) (below_size (hbW HB))); replace HO10 := Aside0.mk (Kd.R_mono (Kd.R_told (Kd.R_told (Kd.R_old (rW HO10) hb) (Kd.R_base ho0)) (Kd.R_base ho1)) (fun _ h_ => h_.1)); replace HO13 := Aside0.mk (Kd.R_mono (Kd.R_told (Kd.R_told (Kd.R_old (rW HO13) hb) (Kd.R_base ho0)) (Kd.R_base ho1)) (fun _ h_ => h_.1)); replace BK1 := bvB BK1 hb; replace BK2 := bvB BK2 hb; replace BK18 := Aside0.mk (blk_below (g := gb18) (o := .cells #[.int .u32 t6, .int .i64 t7, .slice Ao35 t8.length co35, .slice Ao36 t11.length co36, .int .u32 t14, .int .u32 t15, .int .i64 t16, .int .u32 t17] 30 (0, 0)) (bp8 BK18) hb); replace HB := hbS HB hb; (try clear hb); (try clear ho0); (try clear ho1)) | ((with_reducible refine gate_dst (N := 6) rfl ?_); refine box_event ?hg (N := 6) ?hd (cs := #[.int .u32 0, .int .i64 0, .slice none 0 0, .slice none 0 0, .int .u32 0, .int .u32 0, .int .i64 0, .int .u32 0]) (t := 30) ?hr ?_; (case hd => rfl); (case hg => rfl); (case hr => first | (go_simp; done) | (go_simp; rfl)); intro gb31 hg w38 hbox hb; have BK31 := Aside0.mk (hbox); have GW31 := Aside0.mk ((by rw [hg]; exact (below_size (hbW HB)) : w.heap.size ≤ gb31)); have GE31 := Aside0.mk ((by rw [hg]; exact (below_size (hbW HB)) : w.heap.size ≤ gb31)); have NB1_31 := Aside0.mk ((by rw [hg]; exact Nat.ne_of_lt (blk_lt (bkW BK1)) : gb1 ≠ gb31)); have NB31_1 := Aside0.mk ((by rw [hg]; exact Nat.ne_of_gt (blk_lt (bkW BK1)) : gb31 ≠ gb1)); have NB2_31 := Aside0.mk ((by rw [hg]; exact Nat.ne_of_lt (blk_lt (bkW BK2)) : gb2 ≠ gb31)); have NB31_2 := Aside0.mk ((by rw [hg]; exact Nat.ne_of_gt (blk_lt (bkW BK2)) : gb31 ≠ gb2)); have NB18_31 := Aside0.mk ((by rw [hg]; exact Nat.ne_of_lt (blk_lt (bkW BK18)) : gb18 ≠ gb31)); have NB31_18 := Aside0.mk ((by rw [hg]; exact Nat.ne_of_gt (blk_lt (bkW BK18)) : gb31 ≠ gb18)); replace HO10 := Aside0.mk (Kd.R_below (rW HO10) hb); replace HO13 := Aside0.mk (Kd.R_below (rW HO13) hb); replace HO23 := Aside0.mk (Kd.R_below (rW HO23) hb); replace HO26 := Aside0.mk (Kd.R_below (rW HO26) hb); replace BK1 := bkB BK1 hb; replace BK2 := bkB BK2 hb; replace BK18 := bkB BK18 hb; replace HB := hbS HB hb; clear hb hbox hg; have hnb39 := NB31_1.out; have hnc39 := NB1_31.out; have hnb40 := NB31_2.out; have hnc40 := NB2_31.out; have hnb41 := NB31_18.out; have hnc41 := NB18_31.out; obtain ⟨hcz42_0, hcz42_1, hcz42_2, hcz42_3, hcz42_4, hcz42_5, hcz42_6, hcz42_7, hfz42_0, hfz42_1, hfz42_2, hfz42_3, hfz42_4, hfz42_5, hfz42_6, hfz42_7⟩ := bc8 BK31; obtain ⟨Ao43, co43, eo43⟩ := Kd.R_slice HO23.out; subst eo43; obtain ⟨Ao44, co44, eo44⟩ := Kd.R_slice HO26.out; subst eo44; obtain ⟨hcz45_0, hcz45_1, hcz45_2, hcz45_3, hfz45_0, hfz45_1, hfz45_2, hfz45_3⟩ := bc4 BK1; obtain ⟨hcz46_0, hcz46_1, hcz46_2, hcz46_3, hcz46_4, hcz46_5, hcz46_6, hcz46_7, hfz46_0, hfz46_1, hfz46_2, hfz46_3, hfz46_4, hfz46_5, hfz46_6, hfz46_7⟩ := bc8 BK2))
     have LX2 := Aside0.mk (Kd.R_reads' HO10.out).2.1
     have LX3 := Aside0.mk (Kd.R_reads' HO13.out).2.1
     have LY2 := Aside0.mk (Kd.R_reads' HO23.out).2.1
     have LY3 := Aside0.mk (Kd.R_reads' HO26.out).2.1
     obtain ⟨wz, ez⟩ : ∃ z, z = ((((((((w38.setCell ⟨gb31, 0, none⟩ (.int .u32 t19)).setCell ⟨gb31, 1, none⟩ (.int .i64 t20)).setCell ⟨gb31, 2, none⟩ (.slice Ao43 t21.length co43)).setCell ⟨gb31, 3, none⟩ (.slice Ao44 t24.length co44)).setCell ⟨gb31, 4, none⟩ (.int .u32 t27)).setCell ⟨gb31, 5, none⟩ (.int .u32 t28)).setCell ⟨gb31, 6, none⟩ (.int .i64 t29)).setCell ⟨gb31, 7, none⟩ (.int .u32 t30)) := ⟨_, rfl⟩
     rw [← ez]
     have n0_ : Aside0 (Kd.R (Kd.int .u32) 22 wz w.heap.size (fun _ => True) (.slice Ao35 t8.length co35) t8) := ⟨by rw [ez]; exact Kd.R_mono (rW HO10) (fun _ _ => trivial)⟩
     have n1_ : Aside0 (Kd.R (Kd.int .u32) 22 wz w.heap.size (fun _ => True) (.slice Ao36 t11.length co36) t11) := ⟨by rw [ez]; exact Kd.R_mono (rW HO13) (fun _ _ => trivial)⟩
     have n2_ : Aside0 (Kd.R (Kd.int .u32) 22 wz w.heap.size (fun _ => True) (.slice Ao43 t21.length co43) t21) := ⟨by rw [ez]; exact Kd.R_mono (rW HO23) (fun _ _ => trivial)⟩
     have n3_ : Aside0 (Kd.R (Kd.int .u32) 22 wz w.heap.size (fun _ => True) (.slice Ao44 t24.length co44) t24) := ⟨by rw [ez]; exact Kd.R_mono (rW HO26) (fun _ _ => trivial)⟩
     have n4_ : Aside0 (wz.heap[gb1]? = some (.cells #[.int .i64 a0_0, .int .u32 a0_1, .slice A0_2 l0_2.length c0_2, .slice A0_3 l0_3.length c0_3] 26 (0, 0))) := ⟨by rw [ez]; exact bkV BK1⟩
     have n5_ : Aside0 (wz.heap[gb2]? = some (.cells #[.int .u32 a1_0, .int .i64 a1_1, .slice A1_2 l1_2.length c1_2, .slice A1_3 l1_3.length c1_3, .int .u32 a1_4, .int .u32 a1_5, .int .i64 a1_6, .int .u32 a1_7] 30 (0, 0))) := ⟨by rw [ez]; exact bkV BK2⟩
     have n6_ : Aside0 (wz.heap[gb18]? = some (.cells #[.int .u32 t6, .int .i64 t7, .slice Ao35 t8.length co35, .slice Ao36 t11.length co36, .int .u32 t14, .int .u32 t15, .int .i64 t16, .int .u32 t17] 30 (0, 0))) := ⟨by rw [ez]; exact bkV BK18⟩
     have n7_ : Aside0 (wz.heap[gb31]? = some (.cells #[.int .u32 t19, .int .i64 t20, .slice Ao43 t21.length co43, .slice Ao44 t24.length co44, .int .u32 t27, .int .u32 t28, .int .i64 t29, .int .u32 t30] 30 (0, 0))) := ⟨by rw [ez]; exact bp8 BK31⟩
     have n8_ : Aside0 (Below w.heap.size w wz) := ⟨by rw [ez]; exact hbW HB⟩
     clear ez BK1 BK2 BK18 BK31 HB
     have RX2 := n0_
     have RX3 := n1_
     have RY2 := n2_
     have RY3 := n3_
     have BK1 := n4_
     have BK2 := n5_
     have BK18 := n6_
     have BK31 := n7_
     have HB := n8_
     clear n0_ n1_ n2_ n3_ n4_ n5_ n6_ n7_ n8_
     go_cut [] (fun wd => ∃ (Ay2 : Option Addr) (ly2 : List Int) (cy2 : Nat) (Ay3 : Option Addr) (ly3 : List Int) (cy3 : Nat) (y4 y5 y6 y7 : Int), Aside0 (((q12z.f kj4 t19 t20 ly2 ly3 y4 y5 y6 y7 a1_0 a1_1 l1_2 l1_3 a1_4 a1_5 a1_6 a1_7).bind fun t32 => (if t32 = 0 then (if a0_0 = 5 then (some true) else ((q9z.f kj4 a0_0 a0_1 l0_2 l0_3 t6 t7 t8 t11 t14 t15 t16 t17).bind fun bt33 => ((q12z.f kj4 bt33.1 bt33.2.1 bt33.2.2.1 bt33.2.2.2.1 bt33.2.2.2.2.1 bt33.2.2.2.2.2.1 bt33.2.2.2.2.2.2.1 bt33.2.2.2.2.2.2.2 t6 t7 t8 t11 t14 t15 t16 t17).bind fun t45 => (some (t45 == 0))))) else (some false))) = some r) ∧ Aside0 (ly2.length ≤ cy2) ∧ Aside0 (ly3.length ≤ cy3) ∧ Aside0 (Kd.C (Kd.int .u32) wd Ao35 t8.length t8) ∧ Aside0 (Kd.C (Kd.int .u32) wd Ao36 t11.length t11) ∧ Aside0 (Kd.C (Kd.int .u32) wd Ay2 ly2.length ly2) ∧ Aside0 (Kd.C (Kd.int .u32) wd Ay3 ly3.length ly3) ∧ Aside0 (wd.heap[gb1]? = some (.cells #[.int .i64 a0_0, .int .u32 a0_1, .slice A0_2 l0_2.length c0_2, .slice A0_3 l0_3.length c0_3] 26 (0, 0))) ∧ Aside0 (wd.heap[gb2]? = some (.cells #[.int .u32 a1_0, .int .i64 a1_1, .slice A1_2 l1_2.length c1_2, .slice A1_3 l1_3.length c1_3, .int .u32 a1_4, .int .u32 a1_5, .int .i64 a1_6, .int .u32 a1_7] 30 (0, 0))) ∧ Aside0 (wd.heap[gb18]? = some (.cells #[.int .u32 t6, .int .i64 t7, .slice Ao35 t8.length co35, .slice Ao36 t11.length co36, .int .u32 t14, .int .u32 t15, .int .i64 t16, .int .u32 t17] 30 (0, 0))) ∧ Aside0 (wd.heap[gb31]? = some (.cells #[.int .u32 t19, .int .i64 t20, .slice Ay2 ly2.length cy2, .slice Ay3 ly3.length cy3, .int .u32 y4, .int .u32 y5, .int .i64 y6, .int .u32 y7] 30 (0, 0))) ∧ Aside0 (Below w.heap.size w wd))
     case first =>
      have H := HH_.out
      clear HH_
      by_cases ck1 : a0_0 = 1
      ·
       rw [if_pos ck1] at H
       have ckb1 : (a0_0 == 1) = true := beq_iff_eq.mpr ck1
       have H' := Aside0.mk H
       clear H
       obtain ⟨hr0, hr1, hr2, hr3, hr4, hr5, hr6, hr7, -⟩ := bc8 BK2
       obtain ⟨hy0, hy1, hy2, hy3, hy4, hy5, hy6, hy7, hf0, hf1, hf2, hf3, hf4, hf5, hf6, hf7⟩ := bc8 BK31
       obtain ⟨ha0, ha1, ha2, ha3, -⟩ := bc4 BK1
       go_wp2
       go_meet
       case rel => exact ⟨Ao43, t21, co43, Ao44, t24, co44, a1_4, t28, t29, t30, H', LY2, LY3, ⟨(Kd.R_reads' (rW RX2)).2.2⟩, ⟨(Kd.R_reads' (rW RX3)).2.2⟩, ⟨(Kd.R_reads' (rW RY2)).2.2⟩, ⟨(Kd.R_reads' (rW RY3)).2.2⟩, ⟨blk_far BK1.out NB1_31.out _⟩, ⟨blk_far BK2.out NB2_31.out _⟩, ⟨blk_far BK18.out NB18_31.out _⟩, ⟨blk_put BK31.out 4 _ rfl⟩, ⟨below_set HB.out GE31.out⟩⟩
      ·
       rw [if_neg ck1] at H
       have ckb1 : (a0_0 == 1) = false := beq_eq_false_iff_ne.mpr ck1
       by_cases ck2 : a0_0 = 2
       ·
        rw [if_pos ck2] at H
        have ckb2 : (a0_0 == 2) = true := beq_iff_eq.mpr ck2
        have H' := Aside0.mk H
        clear H
        obtain ⟨hr0, hr1, hr2, hr3, hr4, hr5, hr6, hr7, -⟩ := bc8 BK2
        obtain ⟨hy0, hy1, hy2, hy3, hy4, hy5, hy6, hy7, hf0, hf1, hf2, hf3, hf4, hf5, hf6, hf7⟩ := bc8 BK31
        obtain ⟨ha0, ha1, ha2, ha3, -⟩ := bc4 BK1
        go_wp2
        go_meet
        case rel => exact ⟨Ao43, t21, co43, Ao44, t24, co44, t27, a1_5, t29, t30, H', LY2, LY3, ⟨(Kd.R_reads' (rW RX2)).2.2⟩, ⟨(Kd.R_reads' (rW RX3)).2.2⟩, ⟨(Kd.R_reads' (rW RY2)).2.2⟩, ⟨(Kd.R_reads' (rW RY3)).2.2⟩, ⟨blk_far BK1.out NB1_31.out _⟩, ⟨blk_far BK2.out NB2_31.out _⟩, ⟨blk_far BK18.out NB18_31.out _⟩, ⟨blk_put BK31.out 5 _ rfl⟩, ⟨below_set HB.out GE31.out⟩⟩
       ·
        rw [if_neg ck2] at H
        have ckb2 : (a0_0 == 2) = false := beq_eq_false_iff_ne.mpr ck2
        by_cases ck3 : a0_0 = 3
        ·
         rw [if_pos ck3] at H
         have ckb3 : (a0_0 == 3) = true := beq_iff_eq.mpr ck3
         have H' := Aside0.mk H
         clear H
         obtain ⟨hr0, hr1, hr2, hr3, hr4, hr5, hr6, hr7, -⟩ := bc8 BK2
         obtain ⟨hy0, hy1, hy2, hy3, hy4, hy5, hy6, hy7, hf0, hf1, hf2, hf3, hf4, hf5, hf6, hf7⟩ := bc8 BK31
         obtain ⟨ha0, ha1, ha2, ha3, -⟩ := bc4 BK1
         go_wp2
         go_meet
         case rel => exact ⟨Ao43, t21, co43, Ao44, t24, co44, t27, t28, a1_6, t30, H', LY2, LY3, ⟨(Kd.R_reads' (rW RX2)).2.2⟩, ⟨(Kd.R_reads' (rW RX3)).2.2⟩, ⟨(Kd.R_reads' (rW RY2)).2.2⟩, ⟨(Kd.R_reads' (rW RY3)).2.2⟩, ⟨blk_far BK1.out NB1_31.out _⟩, ⟨blk_far BK2.out NB2_31.out _⟩, ⟨blk_far BK18.out NB18_31.out _⟩, ⟨blk_put BK31.out 6 _ rfl⟩, ⟨below_set HB.out GE31.out⟩⟩
        ·
         rw [if_neg ck3] at H
         have ckb3 : (a0_0 == 3) = false := beq_eq_false_iff_ne.mpr ck3
         by_cases ck4 : a0_0 = 4
         ·
          rw [if_pos ck4] at H
          have ckb4 : (a0_0 == 4) = true := beq_iff_eq.mpr ck4
          have H' := Aside0.mk H
          clear H
          obtain ⟨hr0, hr1, hr2, hr3, hr4, hr5, hr6, hr7, -⟩ := bc8 BK2
          obtain ⟨hy0, hy1, hy2, hy3, hy4, hy5, hy6, hy7, hf0, hf1, hf2, hf3, hf4, hf5, hf6, hf7⟩ := bc8 BK31
          obtain ⟨ha0, ha1, ha2, ha3, -⟩ := bc4 BK1
          go_wp2
          go_meet
          case rel => exact ⟨Ao43, t21, co43, Ao44, t24, co44, t27, t28, t29, a1_7, H', LY2, LY3, ⟨(Kd.R_reads' (rW RX2)).2.2⟩, ⟨(Kd.R_reads' (rW RX3)).2.2⟩, ⟨(Kd.R_reads' (rW RY2)).2.2⟩, ⟨(Kd.R_reads' (rW RY3)).2.2⟩, ⟨blk_far BK1.out NB1_31.out _⟩, ⟨blk_far BK2.out NB2_31.out _⟩, ⟨blk_far BK18.out NB18_31.out _⟩, ⟨blk_put BK31.out 7 _ rfl⟩, ⟨below_set HB.out GE31.out⟩⟩
         ·
          rw [if_neg ck4] at H
          have ckb4 : (a0_0 == 4) = false := beq_eq_false_iff_ne.mpr ck4
          by_cases ck5 : a0_0 = 5
          ·
           rw [if_pos ck5] at H
           have ckb5 : (a0_0 == 5) = true := beq_iff_eq.mpr ck5
           have H' := Aside0.mk H
           clear H
           obtain ⟨hr0, hr1, hr2, hr3, hr4, hr5, hr6, hr7, -⟩ := bc8 BK2
           obtain ⟨hy0, hy1, hy2, hy3, hy4, hy5, hy6, hy7, hf0, hf1, hf2, hf3, hf4, hf5, hf6, hf7⟩ := bc8 BK31
           obtain ⟨ha0, ha1, ha2, ha3, -⟩ := bc4 BK1
           go_wp2
           go_meet
           case rel => exact ⟨A1_2, l1_2, c1_2, Ao44, t24, co44, t27, t28, t29, t30, ⟨by simp only [if_pos ck5]; exact H'.out⟩, HC1_2, LY3, ⟨(Kd.R_reads' (rW RX2)).2.2⟩, ⟨(Kd.R_reads' (rW RX3)).2.2⟩, ⟨Kd.C_below HR1_2.out (below_set HB.out GE31.out)⟩, ⟨(Kd.R_reads' (rW RY3)).2.2⟩, ⟨blk_far BK1.out NB1_31.out _⟩, ⟨blk_far BK2.out NB2_31.out _⟩, ⟨blk_far BK18.out NB18_31.out _⟩, ⟨blk_put BK31.out 2 _ rfl⟩, ⟨below_set HB.out GE31.out⟩⟩
          ·
           rw [if_neg ck5] at H
           have ckb5 : (a0_0 == 5) = false := beq_eq_false_iff_ne.mpr ck5
           have H' := Aside0.mk H
           clear H
           obtain ⟨hr0, hr1, hr2, hr3, hr4, hr5, hr6, hr7, -⟩ := bc8 BK2
           obtain ⟨hy0, hy1, hy2, hy3, hy4, hy5, hy6, hy7, hf0, hf1, hf2, hf3, hf4, hf5, hf6, hf7⟩ := bc8 BK31
           obtain ⟨ha0, ha1, ha2, ha3, -⟩ := bc4 BK1
           go_wp2
           go_meet
           case rel => exact ⟨Ao43, t21, co43, A1_3, l1_3, c1_3, t27, t28, t29, t30, ⟨by simp only [if_neg ck5]; exact H'.out⟩, LY2, HC1_3, ⟨(Kd.R_reads' (rW RX2)).2.2⟩, ⟨(Kd.R_reads' (rW RX3)).2.2⟩, ⟨(Kd.R_reads' (rW RY2)).2.2⟩, ⟨Kd.C_below HR1_3.out (below_set HB.out GE31.out)⟩, ⟨blk_far BK1.out NB1_31.out _⟩, ⟨blk_far BK2.out NB2_31.out _⟩, ⟨blk_far BK18.out NB18_31.out _⟩, ⟨blk_put BK31.out 3 _ rfl⟩, ⟨below_set HB.out GE31.out⟩⟩
     case rest =>
      clear HH_ RX2 RX3 RY2 RY3 BK1 BK2 BK18 BK31 HB LY2 LY3
      obtain ⟨Ay2, ly2, cy2, Ay3, ly3, cy3, y4, y5, y6, y7, HH_, LY2, LY3, CX2, CX3, CY2, CY3, BK1, BK2, BK18, BK31, HB⟩ := hcut
      have H := HH_.out
      clear HH_
      replace H := Option.bind_eq_some_iff.mp H
      obtain ⟨t32, A240, H⟩ := H
      have A24 := Aside0.mk A240
      clear A240
      by_cases c25 : t32 = 0
      ·
       rw [if_pos c25] at H
       have c25b0 : (t32 == 0) = true := beq_iff_eq.mpr c25
       have c25b1 : (t32 != 0) = false := bne_eq_false_iff_eq.mpr c25
       clear c25
       by_cases c26 : a0_0 = 5
       ·
        rw [if_pos c26] at H
        have c26b0 : (a0_0 == 5) = true := beq_iff_eq.mpr c26
        have c26b1 : (a0_0 != 5) = false := bne_eq_false_iff_eq.mpr c26
        clear c26
        obtain rfl := Option.some.inj H
        try go_wp2
        replace CX2 := Aside0.mk (Kd.C_drew CX2.out)
        replace CX3 := Aside0.mk (Kd.C_drew CX3.out)
        replace CY2 := Aside0.mk (Kd.C_drew CY2.out)
        replace CY3 := Aside0.mk (Kd.C_drew CY3.out)
        replace BK1 := Aside0.mk (blk_drew BK1.out)
        replace BK2 := Aside0.mk (blk_drew BK2.out)
        replace BK18 := Aside0.mk (blk_drew BK18.out)
        replace BK31 := Aside0.mk (blk_drew BK31.out)
        replace HB := Aside0.mk (below_drew1 HB.out)
        refine start_ (n := 18) (S := fun w' => w'.cell? ⟨gb31, 0, none⟩ = some (.int .u32 t19) ∧ w'.cell? ⟨gb31, 1, none⟩ = some (.int .i64 t20) ∧ w'.cell? ⟨gb31, 2, none⟩ = some (.slice Ay2 ly2.length cy2) ∧ w'.cell? ⟨gb31, 3, none⟩ = some (.slice Ay3 ly3.length cy3) ∧ w'.cell? ⟨gb31, 4, none⟩ = some (.int .u32 y4) ∧ w'.cell? ⟨gb31, 5, none⟩ = some (.int .u32 y5) ∧ w'.cell? ⟨gb31, 6, none⟩ = some (.int .i64 y6) ∧ w'.cell? ⟨gb31, 7, none⟩ = some (.int .u32 y7) ∧ w'.cell? ⟨gb2, 0, none⟩ = some (.int .u32 a1_0) ∧ w'.cell? ⟨gb2, 1, none⟩ = some (.int .i64 a1_1) ∧ w'.cell? ⟨gb2, 2, none⟩ = some (.slice A1_2 l1_2.length c1_2) ∧ w'.cell? ⟨gb2, 3, none⟩ = some (.slice A1_3 l1_3.length c1_3) ∧ w'.cell? ⟨gb2, 4, none⟩ = some (.int .u32 a1_4) ∧ w'.cell? ⟨gb2, 5, none⟩ = some (.int .u32 a1_5) ∧ w'.cell? ⟨gb2, 6, none⟩ = some (.int .i64 a1_6) ∧ w'.cell? ⟨gb2, 7, none⟩ = some (.int .u32 a1_7) ∧ w'.cell? ⟨gb1, 0, none⟩ = some (.int .i64 a0_0) ∧ w'.cell? ⟨gb1, 1, none⟩ = some (.int .u32 a0_1) ∧ w'.cell? ⟨gb1, 2, none⟩ = some (.slice A0_2 l0_2.length c0_2) ∧ w'.cell? ⟨gb1, 3, none⟩ = some (.slice A0_3 l0_3.length c0_3)) (ds := []) #[false, false, false, false, false, false, false, false, false, false, false, false, false, false, false, false, false, false] (by kernel_rfl) rfl rfl ⟨(blk_cell BK31.out 0).trans rfl, (blk_cell BK31.out 1).trans rfl, (blk_cell BK31.out 2).trans rfl, (blk_cell BK31.out 3).trans rfl, (blk_cell BK31.out 4).trans rfl, (blk_cell BK31.out 5).trans rfl, (blk_cell BK31.out 6).trans rfl, (blk_cell BK31.out 7).trans rfl, (blk_cell BK2.out 0).trans rfl, (blk_cell BK2.out 1).trans rfl, (blk_cell BK2.out 2).trans rfl, (blk_cell BK2.out 3).trans rfl, (blk_cell BK2.out 4).trans rfl, (blk_cell BK2.out 5).trans rfl, (blk_cell BK2.out 6).trans rfl, (blk_cell BK2.out 7).trans rfl, (blk_cell BK1.out 0).trans rfl, (blk_cell BK1.out 1).trans rfl, (blk_cell BK1.out 2).trans rfl, (blk_cell BK1.out 3).trans rfl⟩ (fun hHeld => ?_); refine with_tabW q18z.tab19 q18z.bits19 (fun HT_ HW_ => ?_)
        generalize wc.drew = w48 at CX2 CX3 CY2 CY3 BK1 BK2 BK18 BK31 HB hHeld ⊢
        refine take_ (i := 0) (N := some 50) (v := ?_) (a' := ?_) #[true, false, false, false, false, false, false, false, false, false, false, false, false, false, false, false, false, false] rfl rfl (take_ofW HT_.out HW_.out (by kernel_rfl)) (fun _ _ _ h => h) (Or.inl ⟨by rfl, ?_⟩) hHeld ?_ ?_
        rotate_left
        ·
         rintro w' ⟨s0, s1, s2, s3, s4, s5, s6, s7, s8, s9, s10, s11, s12, s13, s14, s15, s16, s17, s18, s19⟩
         go_simp
         with_reducible rfl
        rotate_left
        ·
         simp only [Act.put, List.setIfInBounds_toArray, List.set_cons_zero, List.set_cons_succ, i64_w, i32_w, IntKind.wrap_u32]
         rfl
        refine take_ (i := 1) (N := some 51) (v := ?_) (a' := ?_) #[true, true, false, false, false, false, false, false, false, false, false, false, false, false, false, false, false, false] rfl rfl (take_ofW HT_.out HW_.out (by kernel_rfl)) (fun _ _ _ h => h) (Or.inl ⟨by rfl, ?_⟩) hHeld ?_ ?_
        rotate_left
        ·
         rintro w' ⟨s0, s1, s2, s3, s4, s5, s6, s7, s8, s9, s10, s11, s12, s13, s14, s15, s16, s17, s18, s19⟩
         go_simp
         with_reducible rfl
        rotate_left
        ·
         simp only [Act.put, List.setIfInBounds_toArray, List.set_cons_zero, List.set_cons_succ, i64_w, i32_w, IntKind.wrap_u32]
         rfl
        refine one_ (i := 2) (N := some 52) #[true, true, true, false, false, false, false, false, false, false, false, false, false, false, false, false, false, false] rfl rfl (one_of HT_.out (by kernel_rfl)) (by decide) (fun K hK => ?_)
        refine goes_ Try.func16 (by kernel_rfl) rfl #[.agg #[.int .u32 t19, .int .i64 t20, .slice Ay2 ly2.length cy2, .slice Ay3 ly3.length cy3, .int .u32 y4, .int .u32 y5, .int .i64 y6, .int .u32 y7], .agg #[.int .u32 a1_0, .int .i64 a1_1, .slice A1_2 l1_2.length c1_2, .slice A1_3 l1_3.length c1_3, .int .u32 a1_4, .int .u32 a1_5, .int .i64 a1_6, .int .u32 a1_7]] (by rfl) rfl rfl (by (try simp only [List.map_toArray, List.map_cons, List.map_nil]); first | done | rfl | (simp only [List.length_drop, List.length_take]; rfl)) ?_
        with_reducible refine (q12z.calls kj4 t19 t20 _ _ ly2 _ _ ly3 y4 y5 y6 y7 a1_0 a1_1 _ _ l1_2 _ _ l1_3 a1_4 a1_5 a1_6 a1_7 t32 _ ?side1 ?side2 ?side3 ?side4 ?side5 ?side6 ?side7 ?side8 A24.out).mono ?_
        (case side1 => repeat (first | exact CY2.out | (with_reducible refine Kd.C_alloc ?_ _) | (with_reducible refine Kd.C_drewN ?_ _) | (with_reducible refine Kd.C_drew ?_)))
        (case side2 => exact LY2.out)
        (case side3 => repeat (first | exact CY3.out | (with_reducible refine Kd.C_alloc ?_ _) | (with_reducible refine Kd.C_drewN ?_ _) | (with_reducible refine Kd.C_drew ?_)))
        (case side4 => exact LY3.out)
        (case side5 => repeat (first | exact (Kd.C_below HR1_2.out HB.out) | (with_reducible refine Kd.C_alloc ?_ _) | (with_reducible refine Kd.C_drewN ?_ _) | (with_reducible refine Kd.C_drew ?_)))
        (case side6 => exact HC1_2.out)
        (case side7 => repeat (first | exact (Kd.C_below HR1_3.out HB.out) | (with_reducible refine Kd.C_alloc ?_ _) | (with_reducible refine Kd.C_drewN ?_ _) | (with_reducible refine Kd.C_drew ?_)))
        (case side8 => exact HC1_3.out)
        rintro e w49 ⟨rfl, hb⟩
        refine ⟨_, rfl, ?_⟩
        replace CX2 := Aside0.mk (Kd.C_below CX2.out hb)
        replace CX3 := Aside0.mk (Kd.C_below CX3.out hb)
        replace CY2 := Aside0.mk (Kd.C_below CY2.out hb)
        replace CY3 := Aside0.mk (Kd.C_below CY3.out hb)
        replace BK1 := bkB BK1 hb
        replace BK2 := bkB BK2 hb
        replace BK18 := bkB BK18 hb
        replace BK31 := bkB BK31 hb
        replace HB := hbS HB hb
        (try clear hb)
        refine hK.out _ _ ⟨(blk_cell BK31.out 0).trans rfl, (blk_cell BK31.out 1).trans rfl, (blk_cell BK31.out 2).trans rfl, (blk_cell BK31.out 3).trans rfl, (blk_cell BK31.out 4).trans rfl, (blk_cell BK31.out 5).trans rfl, (blk_cell BK31.out 6).trans rfl, (blk_cell BK31.out 7).trans rfl, (blk_cell BK2.out 0).trans rfl, (blk_cell BK2.out 1).trans rfl, (blk_cell BK2.out 2).trans rfl, (blk_cell BK2.out 3).trans rfl, (blk_cell BK2.out 4).trans rfl, (blk_cell BK2.out 5).trans rfl, (blk_cell BK2.out 6).trans rfl, (blk_cell BK2.out 7).trans rfl, (blk_cell BK1.out 0).trans rfl, (blk_cell BK1.out 1).trans rfl, (blk_cell BK1.out 2).trans rfl, (blk_cell BK1.out 3).trans rfl⟩ (fun hHeld => ?_)
        clear hK K
        refine norm_ (a' := ?_) ?_ ?_
        rotate_left
        ·
         show Act.put _ (some 52) _ = _
         simp only [Act.put, List.setIfInBounds_toArray, List.set_cons_zero, List.set_cons_succ, i64_w, i32_w, IntKind.wrap_u32]
         rfl
        refine pure_ (i := 3) (N := some 53) (v := ?_) (a' := ?_) #[true, true, true, true, false, false, false, false, false, false, false, false, false, false, false, false, false, false] rfl rfl (any_of HT_.out (by kernel_rfl)) (fun _ _ _ h => h) (Or.inl ⟨by rfl, ?_⟩) ?_ ?_
        rotate_left
        ·
         intro w'
         go_simp
         with_reducible rfl
        rotate_left
        ·
         simp only [Act.put, List.setIfInBounds_toArray, List.set_cons_zero, List.set_cons_succ, i64_w, i32_w, IntKind.wrap_u32]
         rfl
        refine pure_ (i := 4) (N := some 54) (v := ?_) (a' := ?_) #[true, true, true, true, true, false, false, false, false, false, false, false, false, false, false, false, false, false] rfl rfl (any_of HT_.out (by kernel_rfl)) (fun _ _ _ h => h) (Or.inl ⟨by rfl, ?_⟩) ?_ ?_
        rotate_left
        ·
         intro w'
         go_simp
         with_reducible rfl
        rotate_left
        ·
         simp only [Act.put, List.setIfInBounds_toArray, List.set_cons_zero, List.set_cons_succ, i64_w, i32_w, IntKind.wrap_u32]
         rfl
        refine pure_ (i := 5) (N := some 55) (v := ?_) (a' := ?_) #[true, true, true, true, true, true, false, false, false, false, false, false, false, false, false, false, false, false] rfl rfl (any_of HT_.out (by kernel_rfl)) (fun _ _ _ h => h) (Or.inl ⟨by rfl, ?_⟩) ?_ ?_
        rotate_left
        ·
         intro w'
         go_simp
         with_reducible rfl
        rotate_left
        ·
         simp only [Act.put, List.setIfInBounds_toArray, List.set_cons_zero, List.set_cons_succ, i64_w, i32_w, IntKind.wrap_u32]
         rfl
        refine take_ (i := 6) (N := some 56) (v := ?_) (a' := ?_) #[true, true, true, true, true, true, true, false, false, false, false, false, false, false, false, false, false, false] rfl rfl (take_ofW HT_.out HW_.out (by kernel_rfl)) (fun _ _ _ h => h) (Or.inl ⟨by rfl, ?_⟩) hHeld ?_ ?_
        rotate_left
        ·
         rintro w' ⟨s0, s1, s2, s3, s4, s5, s6, s7, s8, s9, s10, s11, s12, s13, s14, s15, s16, s17, s18, s19⟩
         go_simp
         with_reducible rfl
        rotate_left
        ·
         simp only [Act.put, List.setIfInBounds_toArray, List.set_cons_zero, List.set_cons_succ, i64_w, i32_w, IntKind.wrap_u32]
         rfl
        refine pure_ (i := 7) (N := some 57) (v := ?_) (a' := ?_) #[true, true, true, true, true, true, true, true, false, false, false, false, false, false, false, false, false, false] rfl rfl (any_of HT_.out (by kernel_rfl)) (fun _ _ _ h => h) (Or.inl ⟨by rfl, ?_⟩) ?_ ?_
        rotate_left
        ·
         intro w'
         go_simp
         with_reducible rfl
        rotate_left
        ·
         simp only [Act.put, List.setIfInBounds_toArray, List.set_cons_zero, List.set_cons_succ, i64_w, i32_w, IntKind.wrap_u32]
         rfl
        refine pure_ (i := 8) (N := some 58) (v := ?_) (a' := ?_) #[true, true, true, true, true, true, true, true, true, false, false, false, false, false, false, false, false, false] rfl rfl (any_of HT_.out (by kernel_rfl)) (fun _ _ _ h => h) (Or.inl ⟨by rfl, ?_⟩) ?_ ?_
        rotate_left
        ·
         intro w'
         go_simp
         with_reducible rfl
        rotate_left
        ·
         simp only [Act.put, List.setIfInBounds_toArray, List.set_cons_zero, List.set_cons_succ, i64_w, i32_w, IntKind.wrap_u32]
         rfl
        refine pure_ (i := 9) (N := some 59) (v := undef) (a' := ?_) #[true, true, true, true, true, true, true, true, true, true, false, false, false, false, false, false, false, false] rfl rfl (any_of HT_.out (by kernel_rfl)) (fun _ _ _ h => h) (Or.inr ⟨by rfl, rfl⟩) ?_ ?_
        rotate_left
        ·
         simp only [Act.put, List.setIfInBounds_toArray, List.set_cons_zero, List.set_cons_succ, i64_w, i32_w, IntKind.wrap_u32]
         rfl
        refine pure_ (i := 10) (N := some 60) (v := undef) (a' := ?_) #[true, true, true, true, true, true, true, true, true, true, true, false, false, false, false, false, false, false] rfl rfl (any_of HT_.out (by kernel_rfl)) (fun _ _ _ h => h) (Or.inr ⟨by rfl, rfl⟩) ?_ ?_
        rotate_left
        ·
         simp only [Act.put, List.setIfInBounds_toArray, List.set_cons_zero, List.set_cons_succ, i64_w, i32_w, IntKind.wrap_u32]
         rfl
        refine pure_ (i := 11) (N := some 61) (v := undef) (a' := ?_) #[true, true, true, true, true, true, true, true, true, true, true, true, false, false, false, false, false, false] rfl rfl (any_of HT_.out (by kernel_rfl)) (fun _ _ _ h => h) (Or.inr ⟨by rfl, rfl⟩) ?_ ?_
        rotate_left
        ·
         simp only [Act.put, List.setIfInBounds_toArray, List.set_cons_zero, List.set_cons_succ, i64_w, i32_w, IntKind.wrap_u32]
         rfl
        refine pure_ (i := 12) (N := some 62) (v := undef) (a' := ?_) #[true, true, true, true, true, true, true, true, true, true, true, true, true, false, false, false, false, false] rfl rfl (any_of HT_.out (by kernel_rfl)) (fun _ _ _ h => h) (Or.inr ⟨by rfl, rfl⟩) ?_ ?_
        rotate_left
        ·
         simp only [Act.put, List.setIfInBounds_toArray, List.set_cons_zero, List.set_cons_succ, i64_w, i32_w, IntKind.wrap_u32]
         rfl
        refine pure_ (i := 13) (N := some 63) (v := undef) (a' := ?_) #[true, true, true, true, true, true, true, true, true, true, true, true, true, true, false, false, false, false] rfl rfl (any_of HT_.out (by kernel_rfl)) (fun _ _ _ h => h) (Or.inr ⟨by rfl, rfl⟩) ?_ ?_
        rotate_left
        ·
         simp only [Act.put, List.setIfInBounds_toArray, List.set_cons_zero, List.set_cons_succ, i64_w, i32_w, IntKind.wrap_u32]
         rfl
        refine pure_ (i := 14) (N := some 64) (v := undef) (a' := ?_) #[true, true, true, true, true, true, true, true, true, true, true, true, true, true, true, false, false, false] rfl rfl (any_of HT_.out (by kernel_rfl)) (fun _ _ _ h => h) (Or.inr ⟨by rfl, rfl⟩) ?_ ?_
        rotate_left
        ·
         simp only [Act.put, List.setIfInBounds_toArray, List.set_cons_zero, List.set_cons_succ, i64_w, i32_w, IntKind.wrap_u32]
         rfl
        refine pure_ (i := 15) (N := some 65) (v := ?_) (a' := ?_) #[true, true, true, true, true, true, true, true, true, true, true, true, true, true, true, true, false, false] rfl rfl (any_of HT_.out (by kernel_rfl)) (fun _ _ _ h => h) (Or.inl ⟨by rfl, ?_⟩) ?_ ?_
        rotate_left
        ·
         intro w'
         go_simp
         with_reducible rfl
        rotate_left
        ·
         simp only [Act.put, List.setIfInBounds_toArray, List.set_cons_zero, List.set_cons_succ, i64_w, i32_w, IntKind.wrap_u32]
         rfl
        refine pure_ (i := 16) (N := some 66) (v := ?_) (a' := ?_) #[true, true, true, true, true, true, true, true, true, true, true, true, true, true, true, true, true, false] rfl rfl (any_of HT_.out (by kernel_rfl)) (fun _ _ _ h => h) (Or.inl ⟨by rfl, ?_⟩) ?_ ?_
        rotate_left
        ·
         intro w'
         go_simp
         with_reducible rfl
        rotate_left
        ·
         simp only [Act.put, List.setIfInBounds_toArray, List.set_cons_zero, List.set_cons_succ, i64_w, i32_w, IntKind.wrap_u32]
         rfl
        refine pure_ (i := 17) (N := some 4) (v := ?_) (a' := ?_) #[true, true, true, true, true, true, true, true, true, true, true, true, true, true, true, true, true, true] rfl rfl (any_of HT_.out (by kernel_rfl)) (fun _ _ _ h => h) (Or.inl ⟨by rfl, ?_⟩) ?_ ?_
        rotate_left
        ·
         intro w'
         go_simp
         with_reducible rfl
        rotate_left
        ·
         simp only [Act.put, List.setIfInBounds_toArray, List.set_cons_zero, List.set_cons_succ, i64_w, i32_w, IntKind.wrap_u32]
         rfl
        refine done_ (done_of HT_.out (by kernel_rfl)) ?_
        try go_wp2
        go_ret
        exact ⟨by first | rfl | (simp [errW_none, errW_some] <;> rfl) | (simp [*, errW_none, errW_some] <;> rfl), hbW HB⟩
       ·
        rw [if_neg c26] at H
        have c26b0 : (a0_0 == 5) = false := beq_eq_false_iff_ne.mpr c26
        have c26b1 : (a0_0 != 5) = true := bne_iff_ne.mpr c26
        replace H := Option.bind_eq_some_iff.mp H
        obtain ⟨⟨t33, t34, t35, t38, t41, t42, t43, t44⟩, A500, H⟩ := H
        replace H : ((q12z.f kj4 t33 t34 t35 t38 t41 t42 t43 t44 t6 t7 t8 t11 t14 t15 t16 t17).bind fun t45 => (some (t45 == 0))) = some r := H
        have A50 := Aside0.mk A500
        clear A500
        replace H := Option.bind_eq_some_iff.mp H
        obtain ⟨t45, A510, H⟩ := H
        replace H : (some (t45 == 0)) = some r := H
        have A51 := Aside0.mk A510
        clear A510
        obtain rfl := Option.some.inj H
        try go_wp2
        replace CX2 := Aside0.mk (Kd.C_drew CX2.out)
        replace CX3 := Aside0.mk (Kd.C_drew CX3.out)
        replace CY2 := Aside0.mk (Kd.C_drew CY2.out)
        replace CY3 := Aside0.mk (Kd.C_drew CY3.out)
        replace BK1 := Aside0.mk (blk_drew BK1.out)
        replace BK2 := Aside0.mk (blk_drew BK2.out)
        replace BK18 := Aside0.mk (blk_drew BK18.out)
        replace BK31 := Aside0.mk (blk_drew BK31.out)
        replace HB := Aside0.mk (below_drew1 HB.out)
        refine start_ (n := 18) (S := fun w' => w'.cell? ⟨gb31, 0, none⟩ = some (.int .u32 t19) ∧ w'.cell? ⟨gb31, 1, none⟩ = some (.int .i64 t20) ∧ w'.cell? ⟨gb31, 2, none⟩ = some (.slice Ay2 ly2.length cy2) ∧ w'.cell? ⟨gb31, 3, none⟩ = some (.slice Ay3 ly3.length cy3) ∧ w'.cell? ⟨gb31, 4, none⟩ = some (.int .u32 y4) ∧ w'.cell? ⟨gb31, 5, none⟩ = some (.int .u32 y5) ∧ w'.cell? ⟨gb31, 6, none⟩ = some (.int .i64 y6) ∧ w'.cell? ⟨gb31, 7, none⟩ = some (.int .u32 y7) ∧ w'.cell? ⟨gb2, 0, none⟩ = some (.int .u32 a1_0) ∧ w'.cell? ⟨gb2, 1, none⟩ = some (.int .i64 a1_1) ∧ w'.cell? ⟨gb2, 2, none⟩ = some (.slice A1_2 l1_2.length c1_2) ∧ w'.cell? ⟨gb2, 3, none⟩ = some (.slice A1_3 l1_3.length c1_3) ∧ w'.cell? ⟨gb2, 4, none⟩ = some (.int .u32 a1_4) ∧ w'.cell? ⟨gb2, 5, none⟩ = some (.int .u32 a1_5) ∧ w'.cell? ⟨gb2, 6, none⟩ = some (.int .i64 a1_6) ∧ w'.cell? ⟨gb2, 7, none⟩ = some (.int .u32 a1_7) ∧ w'.cell? ⟨gb1, 0, none⟩ = some (.int .i64 a0_0) ∧ w'.cell? ⟨gb1, 1, none⟩ = some (.int .u32 a0_1) ∧ w'.cell? ⟨gb1, 2, none⟩ = some (.slice A0_2 l0_2.length c0_2) ∧ w'.cell? ⟨gb1, 3, none⟩ = some (.slice A0_3 l0_3.length c0_3) ∧ w'.cell? ⟨gb18, 0, none⟩ = some (.int .u32 t6) ∧ w'.cell? ⟨gb18, 1, none⟩ = some (.int .i64 t7) ∧ w'.cell? ⟨gb18, 2, none⟩ = some (.slice Ao35 t8.length co35) ∧ w'.cell? ⟨gb18, 3, none⟩ = some (.slice Ao36 t11.length co36) ∧ w'.cell? ⟨gb18, 4, none⟩ = some (.int .u32 t14) ∧ w'.cell? ⟨gb18, 5, none⟩ = some (.int .u32 t15) ∧ w'.cell? ⟨gb18, 6, none⟩ = some (.int .i64 t16) ∧ w'.cell? ⟨gb18, 7, none⟩ = some (.int .u32 t17)) (ds := []) #[false, false, false, false, false, false, false, false, false, false, false, false, false, false, false, false, false, false] (by kernel_rfl) rfl rfl ⟨(blk_cell BK31.out 0).trans rfl, (blk_cell BK31.out 1).trans rfl, (blk_cell BK31.out 2).trans rfl, (blk_cell BK31.out 3).trans rfl, (blk_cell BK31.out 4).trans rfl, (blk_cell BK31.out 5).trans rfl, (blk_cell BK31.out 6).trans rfl, (blk_cell BK31.out 7).trans rfl, (blk_cell BK2.out 0).trans rfl, (blk_cell BK2.out 1).trans rfl, (blk_cell BK2.out 2).trans rfl, (blk_cell BK2.out 3).trans rfl, (blk_cell BK2.out 4).trans rfl, (blk_cell BK2.out 5).trans rfl, (blk_cell BK2.out 6).trans rfl, (blk_cell BK2.out 7).trans rfl, (blk_cell BK1.out 0).trans rfl, (blk_cell BK1.out 1).trans rfl, (blk_cell BK1.out 2).trans rfl, (blk_cell BK1.out 3).trans rfl, (blk_cell BK18.out 0).trans rfl, (blk_cell BK18.out 1).trans rfl, (blk_cell BK18.out 2).trans rfl, (blk_cell BK18.out 3).trans rfl, (blk_cell BK18.out 4).trans rfl, (blk_cell BK18.out 5).trans rfl, (blk_cell BK18.out 6).trans rfl, (blk_cell BK18.out 7).trans rfl⟩ (fun hHeld => ?_); refine with_tabW q18z.tab19 q18z.bits19 (fun HT_ HW_ => ?_)
        generalize wc.drew = w73 at CX2 CX3 CY2 CY3 BK1 BK2 BK18 BK31 HB hHeld ⊢
        refine take_ (i := 0) (N := some 50) (v := ?_) (a' := ?_) #[true, false, false, false, false, false, false, false, false, false, false, false, false, false, false, false, false, false] rfl rfl (take_ofW HT_.out HW_.out (by kernel_rfl)) (fun _ _ _ h => h) (Or.inl ⟨by rfl, ?_⟩) hHeld ?_ ?_
        rotate_left
        ·
         rintro w' ⟨s0, s1, s2, s3, s4, s5, s6, s7, s8, s9, s10, s11, s12, s13, s14, s15, s16, s17, s18, s19, s20, s21, s22, s23, s24, s25, s26, s27⟩
         go_simp
         with_reducible rfl
        rotate_left
        ·
         simp only [Act.put, List.setIfInBounds_toArray, List.set_cons_zero, List.set_cons_succ, i64_w, i32_w, IntKind.wrap_u32]
         rfl
        refine take_ (i := 1) (N := some 51) (v := ?_) (a' := ?_) #[true, true, false, false, false, false, false, false, false, false, false, false, false, false, false, false, false, false] rfl rfl (take_ofW HT_.out HW_.out (by kernel_rfl)) (fun _ _ _ h => h) (Or.inl ⟨by rfl, ?_⟩) hHeld ?_ ?_
        rotate_left
        ·
         rintro w' ⟨s0, s1, s2, s3, s4, s5, s6, s7, s8, s9, s10, s11, s12, s13, s14, s15, s16, s17, s18, s19, s20, s21, s22, s23, s24, s25, s26, s27⟩
         go_simp
         with_reducible rfl
        rotate_left
        ·
         simp only [Act.put, List.setIfInBounds_toArray, List.set_cons_zero, List.set_cons_succ, i64_w, i32_w, IntKind.wrap_u32]
         rfl
        refine one_ (i := 2) (N := some 52) #[true, true, true, false, false, false, false, false, false, false, false, false, false, false, false, false, false, false] rfl rfl (one_of HT_.out (by kernel_rfl)) (by decide) (fun K hK => ?_)
        refine goes_ Try.func16 (by kernel_rfl) rfl #[.agg #[.int .u32 t19, .int .i64 t20, .slice Ay2 ly2.length cy2, .slice Ay3 ly3.length cy3, .int .u32 y4, .int .u32 y5, .int .i64 y6, .int .u32 y7], .agg #[.int .u32 a1_0, .int .i64 a1_1, .slice A1_2 l1_2.length c1_2, .slice A1_3 l1_3.length c1_3, .int .u32 a1_4, .int .u32 a1_5, .int .i64 a1_6, .int .u32 a1_7]] (by rfl) rfl rfl (by (try simp only [List.map_toArray, List.map_cons, List.map_nil]); first | done | rfl | (simp only [List.length_drop, List.length_take]; rfl)) ?_
        with_reducible refine (q12z.calls kj4 t19 t20 _ _ ly2 _ _ ly3 y4 y5 y6 y7 a1_0 a1_1 _ _ l1_2 _ _ l1_3 a1_4 a1_5 a1_6 a1_7 t32 _ ?side1 ?side2 ?side3 ?side4 ?side5 ?side6 ?side7 ?side8 A24.out).mono ?_
        (case side1 => repeat (first | exact CY2.out | (with_reducible refine Kd.C_alloc ?_ _) | (with_reducible refine Kd.C_drewN ?_ _) | (with_reducible refine Kd.C_drew ?_)))
        (case side2 => exact LY2.out)
        (case side3 => repeat (first | exact CY3.out | (with_reducible refine Kd.C_alloc ?_ _) | (with_reducible refine Kd.C_drewN ?_ _) | (with_reducible refine Kd.C_drew ?_)))
        (case side4 => exact LY3.out)
        (case side5 => repeat (first | exact (Kd.C_below HR1_2.out HB.out) | (with_reducible refine Kd.C_alloc ?_ _) | (with_reducible refine Kd.C_drewN ?_ _) | (with_reducible refine Kd.C_drew ?_)))
        (case side6 => exact HC1_2.out)
        (case side7 => repeat (first | exact (Kd.C_below HR1_3.out HB.out) | (with_reducible refine Kd.C_alloc ?_ _) | (with_reducible refine Kd.C_drewN ?_ _) | (with_reducible refine Kd.C_drew ?_)))
        (case side8 => exact HC1_3.out)
        rintro e w74 ⟨rfl, hb⟩
        refine ⟨_, rfl, ?_⟩
        replace CX2 := Aside0.mk (Kd.C_below CX2.out hb)
        replace CX3 := Aside0.mk (Kd.C_below CX3.out hb)
        replace CY2 := Aside0.mk (Kd.C_below CY2.out hb)
        replace CY3 := Aside0.mk (Kd.C_below CY3.out hb)
        replace BK1 := bkB BK1 hb
        replace BK2 := bkB BK2 hb
        replace BK18 := bkB BK18 hb
        replace BK31 := bkB BK31 hb
        replace HB := hbS HB hb
        (try clear hb)
        refine hK.out _ _ ⟨(blk_cell BK31.out 0).trans rfl, (blk_cell BK31.out 1).trans rfl, (blk_cell BK31.out 2).trans rfl, (blk_cell BK31.out 3).trans rfl, (blk_cell BK31.out 4).trans rfl, (blk_cell BK31.out 5).trans rfl, (blk_cell BK31.out 6).trans rfl, (blk_cell BK31.out 7).trans rfl, (blk_cell BK2.out 0).trans rfl, (blk_cell BK2.out 1).trans rfl, (blk_cell BK2.out 2).trans rfl, (blk_cell BK2.out 3).trans rfl, (blk_cell BK2.out 4).trans rfl, (blk_cell BK2.out 5).trans rfl, (blk_cell BK2.out 6).trans rfl, (blk_cell BK2.out 7).trans rfl, (blk_cell BK1.out 0).trans rfl, (blk_cell BK1.out 1).trans rfl, (blk_cell BK1.out 2).trans rfl, (blk_cell BK1.out 3).trans rfl, (blk_cell BK18.out 0).trans rfl, (blk_cell BK18.out 1).trans rfl, (blk_cell BK18.out 2).trans rfl, (blk_cell BK18.out 3).trans rfl, (blk_cell BK18.out 4).trans rfl, (blk_cell BK18.out 5).trans rfl, (blk_cell BK18.out 6).trans rfl, (blk_cell BK18.out 7).trans rfl⟩ (fun hHeld => ?_)
        clear hK K
        refine norm_ (a' := ?_) ?_ ?_
        rotate_left
        ·
         show Act.put _ (some 52) _ = _
         simp only [Act.put, List.setIfInBounds_toArray, List.set_cons_zero, List.set_cons_succ, i64_w, i32_w, IntKind.wrap_u32]
         rfl
        refine pure_ (i := 3) (N := some 53) (v := ?_) (a' := ?_) #[true, true, true, true, false, false, false, false, false, false, false, false, false, false, false, false, false, false] rfl rfl (any_of HT_.out (by kernel_rfl)) (fun _ _ _ h => h) (Or.inl ⟨by rfl, ?_⟩) ?_ ?_
        rotate_left
        ·
         intro w'
         go_simp
         with_reducible rfl
        rotate_left
        ·
         simp only [Act.put, List.setIfInBounds_toArray, List.set_cons_zero, List.set_cons_succ, i64_w, i32_w, IntKind.wrap_u32]
         rfl
        refine pure_ (i := 4) (N := some 54) (v := ?_) (a' := ?_) #[true, true, true, true, true, false, false, false, false, false, false, false, false, false, false, false, false, false] rfl rfl (any_of HT_.out (by kernel_rfl)) (fun _ _ _ h => h) (Or.inl ⟨by rfl, ?_⟩) ?_ ?_
        rotate_left
        ·
         intro w'
         go_simp
         with_reducible rfl
        rotate_left
        ·
         simp only [Act.put, List.setIfInBounds_toArray, List.set_cons_zero, List.set_cons_succ, i64_w, i32_w, IntKind.wrap_u32]
         rfl
        refine pure_ (i := 5) (N := some 55) (v := ?_) (a' := ?_) #[true, true, true, true, true, true, false, false, false, false, false, false, false, false, false, false, false, false] rfl rfl (any_of HT_.out (by kernel_rfl)) (fun _ _ _ h => h) (Or.inl ⟨by rfl, ?_⟩) ?_ ?_
        rotate_left
        ·
         intro w'
         go_simp
         with_reducible rfl
        rotate_left
        ·
         simp only [Act.put, List.setIfInBounds_toArray, List.set_cons_zero, List.set_cons_succ, i64_w, i32_w, IntKind.wrap_u32]
         rfl
        refine take_ (i := 6) (N := some 56) (v := ?_) (a' := ?_) #[true, true, true, true, true, true, true, false, false, false, false, false, false, false, false, false, false, false] rfl rfl (take_ofW HT_.out HW_.out (by kernel_rfl)) (fun _ _ _ h => h) (Or.inl ⟨by rfl, ?_⟩) hHeld ?_ ?_
        rotate_left
        ·
         rintro w' ⟨s0, s1, s2, s3, s4, s5, s6, s7, s8, s9, s10, s11, s12, s13, s14, s15, s16, s17, s18, s19, s20, s21, s22, s23, s24, s25, s26, s27⟩
         go_simp
         with_reducible rfl
        rotate_left
        ·
         simp only [Act.put, List.setIfInBounds_toArray, List.set_cons_zero, List.set_cons_succ, i64_w, i32_w, IntKind.wrap_u32]
         rfl
        refine pure_ (i := 7) (N := some 57) (v := ?_) (a' := ?_) #[true, true, true, true, true, true, true, true, false, false, false, false, false, false, false, false, false, false] rfl rfl (any_of HT_.out (by kernel_rfl)) (fun _ _ _ h => h) (Or.inl ⟨by rfl, ?_⟩) ?_ ?_
        rotate_left
        ·
         intro w'
         go_simp
         with_reducible rfl
        rotate_left
        ·
         simp only [Act.put, List.setIfInBounds_toArray, List.set_cons_zero, List.set_cons_succ, i64_w, i32_w, IntKind.wrap_u32]
         rfl
        refine pure_ (i := 8) (N := some 58) (v := ?_) (a' := ?_) #[true, true, true, true, true, true, true, true, true, false, false, false, false, false, false, false, false, false] rfl rfl (any_of HT_.out (by kernel_rfl)) (fun _ _ _ h => h) (Or.inl ⟨by rfl, ?_⟩) ?_ ?_
        rotate_left
        ·
         intro w'
         go_simp
         with_reducible rfl
        rotate_left
        ·
         simp only [Act.put, List.setIfInBounds_toArray, List.set_cons_zero, List.set_cons_succ, i64_w, i32_w, IntKind.wrap_u32]
         rfl
        refine take_ (i := 9) (N := some 59) (v := ?_) (a' := ?_) #[true, true, true, true, true, true, true, true, true, true, false, false, false, false, false, false, false, false] rfl rfl (take_ofW HT_.out HW_.out (by kernel_rfl)) (fun _ _ _ h => h) (Or.inl ⟨by rfl, ?_⟩) hHeld ?_ ?_
        rotate_left
        ·
         rintro w' ⟨s0, s1, s2, s3, s4, s5, s6, s7, s8, s9, s10, s11, s12, s13, s14, s15, s16, s17, s18, s19, s20, s21, s22, s23, s24, s25, s26, s27⟩
         go_simp
         with_reducible rfl
        rotate_left
        ·
         simp only [Act.put, List.setIfInBounds_toArray, List.set_cons_zero, List.set_cons_succ, i64_w, i32_w, IntKind.wrap_u32]
         rfl
        refine take_ (i := 10) (N := some 60) (v := ?_) (a' := ?_) #[true, true, true, true, true, true, true, true, true, true, true, false, false, false, false, false, false, false] rfl rfl (take_ofW HT_.out HW_.out (by kernel_rfl)) (fun _ _ _ h => h) (Or.inl ⟨by rfl, ?_⟩) hHeld ?_ ?_
        rotate_left
        ·
         rintro w' ⟨s0, s1, s2, s3, s4, s5, s6, s7, s8, s9, s10, s11, s12, s13, s14, s15, s16, s17, s18, s19, s20, s21, s22, s23, s24, s25, s26, s27⟩
         go_simp
         with_reducible rfl
        rotate_left
        ·
         simp only [Act.put, List.setIfInBounds_toArray, List.set_cons_zero, List.set_cons_succ, i64_w, i32_w, IntKind.wrap_u32]
         rfl
        refine take_ (i := 12) (N := some 62) (v := ?_) (a' := ?_) #[true, true, true, true, true, true, true, true, true, true, true, false, true, false, false, false, false, false] rfl rfl (take_ofW HT_.out HW_.out (by kernel_rfl)) (fun _ _ _ h => h) (Or.inl ⟨by rfl, ?_⟩) hHeld ?_ ?_
        rotate_left
        ·
         rintro w' ⟨s0, s1, s2, s3, s4, s5, s6, s7, s8, s9, s10, s11, s12, s13, s14, s15, s16, s17, s18, s19, s20, s21, s22, s23, s24, s25, s26, s27⟩
         go_simp
         with_reducible rfl
        rotate_left
        ·
         simp only [Act.put, List.setIfInBounds_toArray, List.set_cons_zero, List.set_cons_succ, i64_w, i32_w, IntKind.wrap_u32]
         rfl
        refine one_ (i := 11) (N := some 61) #[true, true, true, true, true, true, true, true, true, true, true, true, true, false, false, false, false, false] rfl rfl (one_of HT_.out (by kernel_rfl)) (by decide) (fun K hK => ?_)
        refine goes_ Try.func13 (by kernel_rfl) rfl #[.agg #[.int .i64 a0_0, .int .u32 a0_1, .slice A0_2 l0_2.length c0_2, .slice A0_3 l0_3.length c0_3], .agg #[.int .u32 t6, .int .i64 t7, .slice Ao35 t8.length co35, .slice Ao36 t11.length co36, .int .u32 t14, .int .u32 t15, .int .i64 t16, .int .u32 t17]] (by rfl) rfl rfl (by (try simp only [List.map_toArray, List.map_cons, List.map_nil]); first | done | rfl | (simp only [List.length_drop, List.length_take]; rfl)) ?_
        with_reducible refine (q9z.calls kj4 a0_0 a0_1 (fun k_ => k_ < w.heap.size) _ _ l0_2 _ _ l0_3 t6 t7 _ _ t8 _ _ t11 t14 t15 t16 t17 t33 t34 t35 t38 t41 t42 t43 t44 _ ?side1 ?side2 ?side3 ?side4 ?side5 ?side6 ?side7 A50.out).mono ?_
        (case side1 => exact Kd.V_mk HC0_2.out (Kd.F_below (Kd.C_F (Kd.heap_int .u32) HR0_2.out) (hbW HB)))
        (case side2 => repeat (first | exact (Kd.C_below HR0_3.out HB.out) | (with_reducible refine Kd.C_alloc ?_ _) | (with_reducible refine Kd.C_drewN ?_ _) | (with_reducible refine Kd.C_drew ?_)))
        (case side3 => exact HC0_3.out)
        (case side4 => repeat (first | exact CX2.out | (with_reducible refine Kd.C_alloc ?_ _) | (with_reducible refine Kd.C_drewN ?_ _) | (with_reducible refine Kd.C_drew ?_)))
        (case side5 => exact LX2.out)
        (case side6 => repeat (first | exact CX3.out | (with_reducible refine Kd.C_alloc ?_ _) | (with_reducible refine Kd.C_drewN ?_ _) | (with_reducible refine Kd.C_drew ?_)))
        (case side7 => exact LX3.out)
        rintro e w75 ⟨v36, v39, rfl, ho0, ho1, hb⟩
        refine ⟨_, rfl, ?_⟩
        replace CX2 := Aside0.mk (Kd.C_below CX2.out hb)
        replace CX3 := Aside0.mk (Kd.C_below CX3.out hb)
        clear CY2 CY3
        have HO37 := Aside0.mk ho0
        have HO40 := Aside0.mk ho1
        replace BK1 := bkB BK1 hb
        replace BK2 := bkB BK2 hb
        replace BK18 := bkB BK18 hb
        replace BK31 := bkB BK31 hb
        replace HB := hbS HB hb
        (try clear hb)
        (try clear ho0)
        (try clear ho1)
        obtain ⟨Ao76, co76, eo76⟩ := Kd.R_slice HO37.out
        (first | subst eo76 | (injection eo76 with f1_ f2_ f3_; have f4_ := f1_.symm; have f5_ := f3_.symm; clear f1_ f2_ f3_; subst f4_; subst f5_))
        obtain ⟨Ao77, co77, eo77⟩ := Kd.R_slice HO40.out
        (first | subst eo77 | (injection eo77 with f1_ f2_ f3_; have f4_ := f1_.symm; have f5_ := f3_.symm; clear f1_ f2_ f3_; subst f4_; subst f5_))
        refine hK.out _ _ ⟨(blk_cell BK31.out 0).trans rfl, (blk_cell BK31.out 1).trans rfl, (blk_cell BK31.out 2).trans rfl, (blk_cell BK31.out 3).trans rfl, (blk_cell BK31.out 4).trans rfl, (blk_cell BK31.out 5).trans rfl, (blk_cell BK31.out 6).trans rfl, (blk_cell BK31.out 7).trans rfl, (blk_cell BK2.out 0).trans rfl, (blk_cell BK2.out 1).trans rfl, (blk_cell BK2.out 2).trans rfl, (blk_cell BK2.out 3).trans rfl, (blk_cell BK2.out 4).trans rfl, (blk_cell BK2.out 5).trans rfl, (blk_cell BK2.out 6).trans rfl, (blk_cell BK2.out 7).trans rfl, (blk_cell BK1.out 0).trans rfl, (blk_cell BK1.out 1).trans rfl, (blk_cell BK1.out 2).trans rfl, (blk_cell BK1.out 3).trans rfl, (blk_cell BK18.out 0).trans rfl, (blk_cell BK18.out 1).trans rfl, (blk_cell BK18.out 2).trans rfl, (blk_cell BK18.out 3).trans rfl, (blk_cell BK18.out 4).trans rfl, (blk_cell BK18.out 5).trans rfl, (blk_cell BK18.out 6).trans rfl, (blk_cell BK18.out 7).trans rfl⟩ (fun hHeld => ?_)
        clear hK K
        refine norm_ (a' := ?_) ?_ ?_
        rotate_left
        ·
         show Act.put _ (some 61) _ = _
         simp only [Act.put, List.setIfInBounds_toArray, List.set_cons_zero, List.set_cons_succ, i64_w, i32_w, IntKind.wrap_u32]
         rfl
        refine one_ (i := 13) (N := some 63) #[true, true, true, true, true, true, true, true, true, true, true, true, true, true, false, false, false, false] rfl rfl (one_of HT_.out (by kernel_rfl)) (by decide) (fun K hK => ?_)
        refine goes_ Try.func16 (by kernel_rfl) rfl #[.agg #[.int .u32 t33, .int .i64 t34, .slice Ao76 t35.length co76, .slice Ao77 t38.length co77, .int .u32 t41, .int .u32 t42, .int .i64 t43, .int .u32 t44], .agg #[.int .u32 t6, .int .i64 t7, .slice Ao35 t8.length co35, .slice Ao36 t11.length co36, .int .u32 t14, .int .u32 t15, .int .i64 t16, .int .u32 t17]] (by rfl) rfl rfl (by (try simp only [List.map_toArray, List.map_cons, List.map_nil]); first | done | rfl | (simp only [List.length_drop, List.length_take]; rfl)) ?_
        with_reducible refine (q12z.calls kj4 t33 t34 _ _ t35 _ _ t38 t41 t42 t43 t44 t6 t7 _ _ t8 _ _ t11 t14 t15 t16 t17 t45 _ ?side1 ?side2 ?side3 ?side4 ?side5 ?side6 ?side7 ?side8 A51.out).mono ?_
        (case side1 => repeat (first | exact (Kd.R_reads' HO37.out).2.2 | (with_reducible refine Kd.C_alloc ?_ _) | (with_reducible refine Kd.C_drewN ?_ _) | (with_reducible refine Kd.C_drew ?_)))
        (case side2 => exact (Kd.R_reads' HO37.out).2.1)
        (case side3 => repeat (first | exact (Kd.R_reads' HO40.out).2.2 | (with_reducible refine Kd.C_alloc ?_ _) | (with_reducible refine Kd.C_drewN ?_ _) | (with_reducible refine Kd.C_drew ?_)))
        (case side4 => exact (Kd.R_reads' HO40.out).2.1)
        (case side5 => repeat (first | exact CX2.out | (with_reducible refine Kd.C_alloc ?_ _) | (with_reducible refine Kd.C_drewN ?_ _) | (with_reducible refine Kd.C_drew ?_)))
        (case side6 => exact LX2.out)
        (case side7 => repeat (first | exact CX3.out | (with_reducible refine Kd.C_alloc ?_ _) | (with_reducible refine Kd.C_drewN ?_ _) | (with_reducible refine Kd.C_drew ?_)))
        (case side8 => exact LX3.out)
        rintro e w78 ⟨rfl, hb⟩
        refine ⟨_, rfl, ?_⟩
        replace CX2 := Aside0.mk (Kd.C_below CX2.out hb)
        replace CX3 := Aside0.mk (Kd.C_below CX3.out hb)
        replace BK1 := bkB BK1 hb
        replace BK2 := bkB BK2 hb
        replace BK18 := bkB BK18 hb
        replace BK31 := bkB BK31 hb
        replace HB := hbS HB hb
        (try clear hb)
        refine hK.out _ _ ⟨(blk_cell BK31.out 0).trans rfl, (blk_cell BK31.out 1).trans rfl, (blk_cell BK31.out 2).trans rfl, (blk_cell BK31.out 3).trans rfl, (blk_cell BK31.out 4).trans rfl, (blk_cell BK31.out 5).trans rfl, (blk_cell BK31.out 6).trans rfl, (blk_cell BK31.out 7).trans rfl, (blk_cell BK2.out 0).trans rfl, (blk_cell BK2.out 1).trans rfl, (blk_cell BK2.out 2).trans rfl, (blk_cell BK2.out 3).trans rfl, (blk_cell BK2.out 4).trans rfl, (blk_cell BK2.out 5).trans rfl, (blk_cell BK2.out 6).trans rfl, (blk_cell BK2.out 7).trans rfl, (blk_cell BK1.out 0).trans rfl, (blk_cell BK1.out 1).trans rfl, (blk_cell BK1.out 2).trans rfl, (blk_cell BK1.out 3).trans rfl, (blk_cell BK18.out 0).trans rfl, (blk_cell BK18.out 1).trans rfl, (blk_cell BK18.out 2).trans rfl, (blk_cell BK18.out 3).trans rfl, (blk_cell BK18.out 4).trans rfl, (blk_cell BK18.out 5).trans rfl, (blk_cell BK18.out 6).trans rfl, (blk_cell BK18.out 7).trans rfl⟩ (fun hHeld => ?_)
        clear hK K
        refine norm_ (a' := ?_) ?_ ?_
        rotate_left
        ·
         show Act.put _ (some 63) _ = _
         simp only [Act.put, List.setIfInBounds_toArray, List.set_cons_zero, List.set_cons_succ, i64_w, i32_w, IntKind.wrap_u32]
         rfl
        refine pure_ (i := 14) (N := some 64) (v := ?_) (a' := ?_) #[true, true, true, true, true, true, true, true, true, true, true, true, true, true, true, false, false, false] rfl rfl (any_of HT_.out (by kernel_rfl)) (fun _ _ _ h => h) (Or.inl ⟨by rfl, ?_⟩) ?_ ?_
        rotate_left
        ·
         intro w'
         go_simp
         with_reducible rfl
        rotate_left
        ·
         simp only [Act.put, List.setIfInBounds_toArray, List.set_cons_zero, List.set_cons_succ, i64_w, i32_w, IntKind.wrap_u32]
         rfl
        refine pure_ (i := 15) (N := some 65) (v := ?_) (a' := ?_) #[true, true, true, true, true, true, true, true, true, true, true, true, true, true, true, true, false, false] rfl rfl (any_of HT_.out (by kernel_rfl)) (fun _ _ _ h => h) (Or.inl ⟨by rfl, ?_⟩) ?_ ?_
        rotate_left
        ·
         intro w'
         go_simp
         with_reducible rfl
        rotate_left
        ·
         simp only [Act.put, List.setIfInBounds_toArray, List.set_cons_zero, List.set_cons_succ, i64_w, i32_w, IntKind.wrap_u32]
         rfl
        refine pure_ (i := 16) (N := some 66) (v := ?_) (a' := ?_) #[true, true, true, true, true, true, true, true, true, true, true, true, true, true, true, true, true, false] rfl rfl (any_of HT_.out (by kernel_rfl)) (fun _ _ _ h => h) (Or.inl ⟨by rfl, ?_⟩) ?_ ?_
        rotate_left
        ·
         intro w'
         go_simp
         with_reducible rfl
        rotate_left
        ·
         simp only [Act.put, List.setIfInBounds_toArray, List.set_cons_zero, List.set_cons_succ, i64_w, i32_w, IntKind.wrap_u32]
         rfl
        refine pure_ (i := 17) (N := some 4) (v := ?_) (a' := ?_) #[true, true, true, true, true, true, true, true, true, true, true, true, true, true, true, true, true, true] rfl rfl (any_of HT_.out (by kernel_rfl)) (fun _ _ _ h => h) (Or.inl ⟨by rfl, ?_⟩) ?_ ?_
        rotate_left
        ·
         intro w'
         go_simp
         with_reducible rfl
        rotate_left
        ·
         simp only [Act.put, List.setIfInBounds_toArray, List.set_cons_zero, List.set_cons_succ, i64_w, i32_w, IntKind.wrap_u32]
         rfl
        refine done_ (done_of HT_.out (by kernel_rfl)) ?_
        try go_wp2
        go_ret
        exact ⟨by first | rfl | (simp [errW_none, errW_some] <;> rfl) | (simp [*, errW_none, errW_some] <;> rfl), hbW HB⟩
      ·
       rw [if_neg c25] at H
       have c25b0 : (t32 == 0) = false := beq_eq_false_iff_ne.mpr c25
       have c25b1 : (t32 != 0) = true := bne_iff_ne.mpr c25
       obtain rfl := Option.some.inj H
       try go_wp2
       replace CX2 := Aside0.mk (Kd.C_drew CX2.out)
       replace CX3 := Aside0.mk (Kd.C_drew CX3.out)
       replace CY2 := Aside0.mk (Kd.C_drew CY2.out)
       replace CY3 := Aside0.mk (Kd.C_drew CY3.out)
       replace BK1 := Aside0.mk (blk_drew BK1.out)
       replace BK2 := Aside0.mk (blk_drew BK2.out)
       replace BK18 := Aside0.mk (blk_drew BK18.out)
       replace BK31 := Aside0.mk (blk_drew BK31.out)
       replace HB := Aside0.mk (below_drew1 HB.out)
       refine start_ (n := 18) (S := fun w' => w'.cell? ⟨gb31, 0, none⟩ = some (.int .u32 t19) ∧ w'.cell? ⟨gb31, 1, none⟩ = some (.int .i64 t20) ∧ w'.cell? ⟨gb31, 2, none⟩ = some (.slice Ay2 ly2.length cy2) ∧ w'.cell? ⟨gb31, 3, none⟩ = some (.slice Ay3 ly3.length cy3) ∧ w'.cell? ⟨gb31, 4, none⟩ = some (.int .u32 y4) ∧ w'.cell? ⟨gb31, 5, none⟩ = some (.int .u32 y5) ∧ w'.cell? ⟨gb31, 6, none⟩ = some (.int .i64 y6) ∧ w'.cell? ⟨gb31, 7, none⟩ = some (.int .u32 y7) ∧ w'.cell? ⟨gb2, 0, none⟩ = some (.int .u32 a1_0) ∧ w'.cell? ⟨gb2, 1, none⟩ = some (.int .i64 a1_1) ∧ w'.cell? ⟨gb2, 2, none⟩ = some (.slice A1_2 l1_2.length c1_2) ∧ w'.cell? ⟨gb2, 3, none⟩ = some (.slice A1_3 l1_3.length c1_3) ∧ w'.cell? ⟨gb2, 4, none⟩ = some (.int .u32 a1_4) ∧ w'.cell? ⟨gb2, 5, none⟩ = some (.int .u32 a1_5) ∧ w'.cell? ⟨gb2, 6, none⟩ = some (.int .i64 a1_6) ∧ w'.cell? ⟨gb2, 7, none⟩ = some (.int .u32 a1_7)) (ds := []) #[false, false, false, false, false, false, false, false, false, false, false, false, false, false, false, false, false, false] (by kernel_rfl) rfl rfl ⟨(blk_cell BK31.out 0).trans rfl, (blk_cell BK31.out 1).trans rfl, (blk_cell BK31.out 2).trans rfl, (blk_cell BK31.out 3).trans rfl, (blk_cell BK31.out 4).trans rfl, (blk_cell BK31.out 5).trans rfl, (blk_cell BK31.out 6).trans rfl, (blk_cell BK31.out 7).trans rfl, (blk_cell BK2.out 0).trans rfl, (blk_cell BK2.out 1).trans rfl, (blk_cell BK2.out 2).trans rfl, (blk_cell BK2.out 3).trans rfl, (blk_cell BK2.out 4).trans rfl, (blk_cell BK2.out 5).trans rfl, (blk_cell BK2.out 6).trans rfl, (blk_cell BK2.out 7).trans rfl⟩ (fun hHeld => ?_); refine with_tabW q18z.tab19 q18z.bits19 (fun HT_ HW_ => ?_)
       generalize wc.drew = w100 at CX2 CX3 CY2 CY3 BK1 BK2 BK18 BK31 HB hHeld ⊢
       refine take_ (i := 0) (N := some 50) (v := ?_) (a' := ?_) #[true, false, false, false, false, false, false, false, false, false, false, false, false, false, false, false, false, false] rfl rfl (take_ofW HT_.out HW_.out (by kernel_rfl)) (fun _ _ _ h => h) (Or.inl ⟨by rfl, ?_⟩) hHeld ?_ ?_
       rotate_left
       ·
        rintro w' ⟨s0, s1, s2, s3, s4, s5, s6, s7, s8, s9, s10, s11, s12, s13, s14, s15⟩
        go_simp
        with_reducible rfl
       rotate_left
       ·
        simp only [Act.put, List.setIfInBounds_toArray, List.set_cons_zero, List.set_cons_succ, i64_w, i32_w, IntKind.wrap_u32]
        rfl
       refine take_ (i := 1) (N := some 51) (v := ?_) (a' := ?_) #[true, true, false, false, false, false, false, false, false, false, false, false, false, false, false, false, false, false] rfl rfl (take_ofW HT_.out HW_.out (by kernel_rfl)) (fun _ _ _ h => h) (Or.inl ⟨by rfl, ?_⟩) hHeld ?_ ?_
       rotate_left
       ·
        rintro w' ⟨s0, s1, s2, s3, s4, s5, s6, s7, s8, s9, s10, s11, s12, s13, s14, s15⟩
        go_simp
        with_reducible rfl
       rotate_left
       ·
        simp only [Act.put, List.setIfInBounds_toArray, List.set_cons_zero, List.set_cons_succ, i64_w, i32_w, IntKind.wrap_u32]
        rfl
       refine one_ (i := 2) (N := some 52) #[true, true, true, false, false, false, false, false, false, false, false, false, false, false, false, false, false, false] rfl rfl (one_of HT_.out (by kernel_rfl)) (by decide) (fun K hK => ?_)
       refine goes_ Try.func16 (by kernel_rfl) rfl #[.agg #[.int .u32 t19, .int .i64 t20, .slice Ay2 ly2.length cy2, .slice Ay3 ly3.length cy3, .int .u32 y4, .int .u32 y5, .int .i64 y6, .int .u32 y7], .agg #[.int .u32 a1_0, .int .i64 a1_1, .slice A1_2 l1_2.length c1_2, .slice A1_3 l1_3.length c1_3, .int .u32 a1_4, .int .u32 a1_5, .int .i64 a1_6, .int .u32 a1_7]] (by rfl) rfl rfl (by (try simp only [List.map_toArray, List.map_cons, List.map_nil]); first | done | rfl | (simp only [List.length_drop, List.length_take]; rfl)) ?_
       with_reducible refine (q12z.calls kj4 t19 t20 _ _ ly2 _ _ ly3 y4 y5 y6 y7 a1_0 a1_1 _ _ l1_2 _ _ l1_3 a1_4 a1_5 a1_6 a1_7 t32 _ ?side1 ?side2 ?side3 ?side4 ?side5 ?side6 ?side7 ?side8 A24.out).mono ?_
       (case side1 => repeat (first | exact CY2.out | (with_reducible refine Kd.C_alloc ?_ _) | (with_reducible refine Kd.C_drewN ?_ _) | (with_reducible refine Kd.C_drew ?_)))
       (case side2 => exact LY2.out)
       (case side3 => repeat (first | exact CY3.out | (with_reducible refine Kd.C_alloc ?_ _) | (with_reducible refine Kd.C_drewN ?_ _) | (with_reducible refine Kd.C_drew ?_)))
       (case side4 => exact LY3.out)
       (case side5 => repeat (first | exact (Kd.C_below HR1_2.out HB.out) | (with_reducible refine Kd.C_alloc ?_ _) | (with_reducible refine Kd.C_drewN ?_ _) | (with_reducible refine Kd.C_drew ?_)))
       (case side6 => exact HC1_2.out)
       (case side7 => repeat (first | exact (Kd.C_below HR1_3.out HB.out) | (with_reducible refine Kd.C_alloc ?_ _) | (with_reducible refine Kd.C_drewN ?_ _) | (with_reducible refine Kd.C_drew ?_)))
       (case side8 => exact HC1_3.out)
       rintro e w101 ⟨rfl, hb⟩
       refine ⟨_, rfl, ?_⟩
       replace CX2 := Aside0.mk (Kd.C_below CX2.out hb)
       replace CX3 := Aside0.mk (Kd.C_below CX3.out hb)
       replace CY2 := Aside0.mk (Kd.C_below CY2.out hb)
       replace CY3 := Aside0.mk (Kd.C_below CY3.out hb)
       replace BK1 := bkB BK1 hb
       replace BK2 := bkB BK2 hb
       replace BK18 := bkB BK18 hb
       replace BK31 := bkB BK31 hb
       replace HB := hbS HB hb
       (try clear hb)
       refine hK.out _ _ ⟨(blk_cell BK31.out 0).trans rfl, (blk_cell BK31.out 1).trans rfl, (blk_cell BK31.out 2).trans rfl, (blk_cell BK31.out 3).trans rfl, (blk_cell BK31.out 4).trans rfl, (blk_cell BK31.out 5).trans rfl, (blk_cell BK31.out 6).trans rfl, (blk_cell BK31.out 7).trans rfl, (blk_cell BK2.out 0).trans rfl, (blk_cell BK2.out 1).trans rfl, (blk_cell BK2.out 2).trans rfl, (blk_cell BK2.out 3).trans rfl, (blk_cell BK2.out 4).trans rfl, (blk_cell BK2.out 5).trans rfl, (blk_cell BK2.out 6).trans rfl, (blk_cell BK2.out 7).trans rfl⟩ (fun hHeld => ?_)
       clear hK K
       refine norm_ (a' := ?_) ?_ ?_
       rotate_left
       ·
        show Act.put _ (some 52) _ = _
        simp only [Act.put, List.setIfInBounds_toArray, List.set_cons_zero, List.set_cons_succ, i64_w, i32_w, IntKind.wrap_u32]
        rfl
       refine pure_ (i := 3) (N := some 53) (v := ?_) (a' := ?_) #[true, true, true, true, false, false, false, false, false, false, false, false, false, false, false, false, false, false] rfl rfl (any_of HT_.out (by kernel_rfl)) (fun _ _ _ h => h) (Or.inl ⟨by rfl, ?_⟩) ?_ ?_
       rotate_left
       ·
        intro w'
        go_simp
        with_reducible rfl
       rotate_left
       ·
        simp only [Act.put, List.setIfInBounds_toArray, List.set_cons_zero, List.set_cons_succ, i64_w, i32_w, IntKind.wrap_u32]
        rfl
       refine pure_ (i := 4) (N := some 54) (v := ?_) (a' := ?_) #[true, true, true, true, true, false, false, false, false, false, false, false, false, false, false, false, false, false] rfl rfl (any_of HT_.out (by kernel_rfl)) (fun _ _ _ h => h) (Or.inl ⟨by rfl, ?_⟩) ?_ ?_
       rotate_left
       ·
        intro w'
        go_simp
        with_reducible rfl
       rotate_left
       ·
        simp only [Act.put, List.setIfInBounds_toArray, List.set_cons_zero, List.set_cons_succ, i64_w, i32_w, IntKind.wrap_u32]
        rfl
       refine pure_ (i := 5) (N := some 55) (v := undef) (a' := ?_) #[true, true, true, true, true, true, false, false, false, false, false, false, false, false, false, false, false, false] rfl rfl (any_of HT_.out (by kernel_rfl)) (fun _ _ _ h => h) (Or.inr ⟨by rfl, rfl⟩) ?_ ?_
       rotate_left
       ·
        simp only [Act.put, List.setIfInBounds_toArray, List.set_cons_zero, List.set_cons_succ, i64_w, i32_w, IntKind.wrap_u32]
        rfl
       refine pure_ (i := 6) (N := some 56) (v := undef) (a' := ?_) #[true, true, true, true, true, true, true, false, false, false, false, false, false, false, false, false, false, false] rfl rfl (any_of HT_.out (by kernel_rfl)) (fun _ _ _ h => h) (Or.inr ⟨by rfl, rfl⟩) ?_ ?_
       rotate_left
       ·
        simp only [Act.put, List.setIfInBounds_toArray, List.set_cons_zero, List.set_cons_succ, i64_w, i32_w, IntKind.wrap_u32]
        rfl
       refine pure_ (i := 7) (N := some 57) (v := undef) (a' := ?_) #[true, true, true, true, true, true, true, true, false, false, false, false, false, false, false, false, false, false] rfl rfl (any_of HT_.out (by kernel_rfl)) (fun _ _ _ h => h) (Or.inr ⟨by rfl, rfl⟩) ?_ ?_
       rotate_left
       ·
        simp only [Act.put, List.setIfInBounds_toArray, List.set_cons_zero, List.set_cons_succ, i64_w, i32_w, IntKind.wrap_u32]
        rfl
       refine pure_ (i := 8) (N := some 58) (v := undef) (a' := ?_) #[true, true, true, true, true, true, true, true, true, false, false, false, false, false, false, false, false, false] rfl rfl (any_of HT_.out (by kernel_rfl)) (fun _ _ _ h => h) (Or.inr ⟨by rfl, rfl⟩) ?_ ?_
       rotate_left
       ·
        simp only [Act.put, List.setIfInBounds_toArray, List.set_cons_zero, List.set_cons_succ, i64_w, i32_w, IntKind.wrap_u32]
        rfl
       refine pure_ (i := 9) (N := some 59) (v := undef) (a' := ?_) #[true, true, true, true, true, true, true, true, true, true, false, false, false, false, false, false, false, false] rfl rfl (any_of HT_.out (by kernel_rfl)) (fun _ _ _ h => h) (Or.inr ⟨by rfl, rfl⟩) ?_ ?_
       rotate_left
       ·
        simp only [Act.put, List.setIfInBounds_toArray, List.set_cons_zero, List.set_cons_succ, i64_w, i32_w, IntKind.wrap_u32]
        rfl
       refine pure_ (i := 10) (N := some 60) (v := undef) (a' := ?_) #[true, true, true, true, true, true, true, true, true, true, true, false, false, false, false, false, false, false] rfl rfl (any_of HT_.out (by kernel_rfl)) (fun _ _ _ h => h) (Or.inr ⟨by rfl, rfl⟩) ?_ ?_
       rotate_left
       ·
        simp only [Act.put, List.setIfInBounds_toArray, List.set_cons_zero, List.set_cons_succ, i64_w, i32_w, IntKind.wrap_u32]
        rfl
       refine pure_ (i := 11) (N := some 61) (v := undef) (a' := ?_) #[true, true, true, true, true, true, true, true, true, true, true, true, false, false, false, false, false, false] rfl rfl (any_of HT_.out (by kernel_rfl)) (fun _ _ _ h => h) (Or.inr ⟨by rfl, rfl⟩) ?_ ?_
       rotate_left
       ·
        simp only [Act.put, List.setIfInBounds_toArray, List.set_cons_zero, List.set_cons_succ, i64_w, i32_w, IntKind.wrap_u32]
        rfl
       refine pure_ (i := 12) (N := some 62) (v := undef) (a' := ?_) #[true, true, true, true, true, true, true, true, true, true, true, true, true, false, false, false, false, false] rfl rfl (any_of HT_.out (by kernel_rfl)) (fun _ _ _ h => h) (Or.inr ⟨by rfl, rfl⟩) ?_ ?_
       rotate_left
       ·
        simp only [Act.put, List.setIfInBounds_toArray, List.set_cons_zero, List.set_cons_succ, i64_w, i32_w, IntKind.wrap_u32]
        rfl
       refine pure_ (i := 13) (N := some 63) (v := undef) (a' := ?_) #[true, true, true, true, true, true, true, true, true, true, true, true, true, true, false, false, false, false] rfl rfl (any_of HT_.out (by kernel_rfl)) (fun _ _ _ h => h) (Or.inr ⟨by rfl, rfl⟩) ?_ ?_
       rotate_left
       ·
        simp only [Act.put, List.setIfInBounds_toArray, List.set_cons_zero, List.set_cons_succ, i64_w, i32_w, IntKind.wrap_u32]
        rfl
       refine pure_ (i := 14) (N := some 64) (v := undef) (a' := ?_) #[true, true, true, true, true, true, true, true, true, true, true, true, true, true, true, false, false, false] rfl rfl (any_of HT_.out (by kernel_rfl)) (fun _ _ _ h => h) (Or.inr ⟨by rfl, rfl⟩) ?_ ?_
       rotate_left
       ·
        simp only [Act.put, List.setIfInBounds_toArray, List.set_cons_zero, List.set_cons_succ, i64_w, i32_w, IntKind.wrap_u32]
        rfl
       refine pure_ (i := 15) (N := some 65) (v := undef) (a' := ?_) #[true, true, true, true, true, true, true, true, true, true, true, true, true, true, true, true, false, false] rfl rfl (any_of HT_.out (by kernel_rfl)) (fun _ _ _ h => h) (Or.inr ⟨by rfl, rfl⟩) ?_ ?_
       rotate_left
       ·
        simp only [Act.put, List.setIfInBounds_toArray, List.set_cons_zero, List.set_cons_succ, i64_w, i32_w, IntKind.wrap_u32]
        rfl
       refine pure_ (i := 16) (N := some 66) (v := ?_) (a' := ?_) #[true, true, true, true, true, true, true, true, true, true, true, true, true, true, true, true, true, false] rfl rfl (any_of HT_.out (by kernel_rfl)) (fun _ _ _ h => h) (Or.inl ⟨by rfl, ?_⟩) ?_ ?_
       rotate_left
       ·
        intro w'
        go_simp
        with_reducible rfl
       rotate_left
       ·
        simp only [Act.put, List.setIfInBounds_toArray, List.set_cons_zero, List.set_cons_succ, i64_w, i32_w, IntKind.wrap_u32]
        rfl
       refine pure_ (i := 17) (N := some 4) (v := ?_) (a' := ?_) #[true, true, true, true, true, true, true, true, true, true, true, true, true, true, true, true, true, true] rfl rfl (any_of HT_.out (by kernel_rfl)) (fun _ _ _ h => h) (Or.inl ⟨by rfl, ?_⟩) ?_ ?_
       rotate_left
       ·
        intro w'
        go_simp
        with_reducible rfl
       rotate_left
       ·
        simp only [Act.put, List.setIfInBounds_toArray, List.set_cons_zero, List.set_cons_succ, i64_w, i32_w, IntKind.wrap_u32]
        rfl
       refine done_ (done_of HT_.out (by kernel_rfl)) ?_
       try go_wp2
       go_ret
       exact ⟨by first | rfl | (simp [errW_none, errW_some] <;> rfl) | (simp [*, errW_none, errW_some] <;> rfl), hbW HB⟩
 ·
  replace c4 := Bool.eq_false_iff.mpr c4
  subst c4
  have H1 : (some false) = some r := by rw [if_neg (show ¬ (false = true) by decide)] at H; exact H
  clear H
  have H := H1
  clear H1
  obtain rfl := Option.some.inj H
  go_enter Try.func5, Try.ntmps5
  go_wp2_with (first | ((with_reducible refine gate_dst (N := 2) rfl ?_); refine box_event ?hg (N := 2) ?hd (cs := #[.int .i64 a0_0, .int .u32 a0_1, .slice A0_2 l0_2.length c0_2, .slice A0_3 l0_3.length c0_3]) (t := 26) ?hr ?_; (case hd => rfl); (case hg => rfl); (case hr => first | (go_simp; done) | (go_simp; rfl)); intro gb1 hg w442 hbox hb; have BK1 := Aside0.mk (hbox); have GW1 := Aside0.mk ((by rw [hg]; exact (below_size (hbW HB)) : w.heap.size ≤ gb1)); have GE1 := Aside0.mk ((by rw [hg]; exact (below_size (hbW HB)) : w.heap.size ≤ gb1)); replace HB := hbS HB hb; clear hb hbox hg) | ((with_reducible refine gate_dst (N := 3) rfl ?_); refine box_event ?hg (N := 3) ?hd (cs := #[.int .u32 a1_0, .int .i64 a1_1, .slice A1_2 l1_2.length c1_2, .slice A1_3 l1_3.length c1_3, .int .u32 a1_4, .int .u32 a1_5, .int .i64 a1_6, .int .u32 a1_7]) (t := 30) ?hr ?_; (case hd => rfl); (case hg => rfl); (case hr => first | (go_simp; done) | (go_simp; rfl)); intro gb2 hg w443 hbox hb; have BK2 := Aside0.mk (hbox); have GW2 := Aside0.mk ((by rw [hg]; exact (below_size (hbW HB)) : w.heap.size ≤ gb2)); have GE2 := Aside0.mk ((by rw [hg]; exact (below_size (hbW HB)) : w.heap.size ≤ gb2)); have NB1_2 := Aside0.mk ((by rw [hg]; exact Nat.ne_of_lt (blk_lt (bkW BK1)) : gb1 ≠ gb2)); have NB2_1 := Aside0.mk ((by rw [hg]; exact Nat.ne_of_gt (blk_lt (bkW BK1)) : gb2 ≠ gb1)); replace BK1 := bkB BK1 hb; replace HB := hbS HB hb; clear hb hbox hg) | ((with_reducible refine gate_callee (f := 8) rfl ?_); refine goesL_ (some 7) rfl rfl Try.func8 (by kernel_rfl) rfl #[] rfl (by (try simp only [List.map_toArray, List.map_cons, List.map_nil]); first | done | rfl | (simp only [List.length_drop, List.length_take]; rfl)) ?_; (with_reducible refine (q14z.calls k  false _ A3.out).mono ?_); rintro e w444 ⟨rfl, hb⟩; refine ⟨_, rfl, ?_⟩; replace BK1 := bkB BK1 hb; replace BK2 := bkB BK2 hb; replace HB := hbS HB hb; (try clear hb)))
  go_ret
  exact ⟨by first | rfl | (simp [errW_none, errW_some] <;> rfl) | (simp [*, errW_none, errW_some] <;> rfl), hbW HB⟩

end Go.Proofs.Ytgelpccjdndfoaa.P

namespace Go.Proofs.Ytgelpccjdndfoaa.P
open Go.RowKit Go.Proofs.YtgelpccjdndfoaaW.PrintWords Go.Proofs.YtgelpccjdndfoaaW.PrintLast Go.Proofs.YtgelpccjdndfoaaW.PrintMore Go.ChangeShapes Go.WideShapes
set_option linter.unusedVariables false
section
variable {H : Type} {enc : TypeId × Value → H} {P : Program} {w : World} {base : Nat} {spare : Nat → Bool} {held : Bool}
/-- Whatever reads as data of type T is a value of kind d. -/
def Opens (enc : TypeId × Value → H) (P : Program) (w : World) (base : Nat) (spare : Nat → Bool) (held : Bool) {α : Type} (d : Kd α) (T : TypeId) (good : α → Prop) : Prop :=
  ∀ fuel cs y, DataW.trod enc P w base spare held fuel T cs = some y → ∃ x, d.K w x cs ∧ good x
theorem opens_int {k : IntKind} {T : TypeId} (ht : P.underlying T = some (.int k)) : Opens enc P w base spare held (Kd.int k) T (fun n => (Lit.int k n).wf = true) := by
  intro fuel cs y h
  obtain ⟨n, rfl, _, hw⟩ := DataW.trod_int ht h
  exact ⟨n, rfl, hw⟩
theorem opens_bool {T : TypeId} (ht : P.underlying T = some .bool) : Opens enc P w base spare held Kd.bool T (fun _ => True) := by
  intro fuel cs y h
  cases fuel with
  | zero => simp [DataW.trod] at h
  | succ n =>
    unfold DataW.trod at h
    rw [ht] at h
    split at h
    all_goals first | exact ⟨_, rfl, trivial⟩ | (exfalso; simp_all; done)
theorem pick_list {α : Type} {Q : Nat → α → Prop} : ∀ n : Nat, (∀ i, i < n → ∃ x, Q i x) → ∃ xs : List α, xs.length = n ∧ ∀ i x, xs[i]? = some x → Q i x
  | 0, _ => ⟨[], rfl, fun i x h => by simp at h⟩
  | n + 1, h => by
    obtain ⟨xs, hl, hx⟩ := pick_list n (fun i hi => h i (by omega))
    obtain ⟨x, hxn⟩ := h n (by omega)
    refine ⟨xs ++ [x], by simp [hl], fun i z hz => ?_⟩
    by_cases hi : i < n
    · rw [List.getElem?_append_left (by omega)] at hz
      exact hx i z hz
    · rw [List.getElem?_append_right (by omega)] at hz
      have hi0 : i - xs.length = 0 := by
        have := (List.getElem?_eq_some_iff.1 hz).1
        simp at this
        omega
      rw [hi0] at hz
      have : x = z := by simpa using hz
      subst this
      have : i = n := by omega
      subst this
      exact hxn
theorem opens_slice {α : Type} {d : Kd α} {T e : TypeId} {good : α → Prop} (ht : P.underlying T = some (.slice e)) (hce : P.cellsOf e = d.sz) (ho : Opens enc P w base spare held d e good) :
    Opens enc P w base spare held (Kd.slice e d) T (fun xs => xs.length ≤ 9223372036854775807 ∧ ∀ x ∈ xs, good x) := by
  intro fuel cs y h
  rcases Go.Deep.open_slice ht h with ⟨rfl, _⟩ | ⟨a, len, cap, m, n, D, Pl, rfl, hb, hl, hm, hmm, _, hx⟩
  · exact ⟨[], ⟨none, 0, rfl, Nat.le_refl _, ⟨rfl, by simp, fun h => absurd h (by simp)⟩⟩, by simp, fun x hx => (List.not_mem_nil hx).elim⟩
  · have hlm : len ≤ m := by rw [hmm]; split <;> omega
    have each : ∀ i, i < len → ∃ q : α × List Value, w.cells? base (a.add (i * d.sz)) d.sz = some q.2 ∧ d.K w q.1 q.2 ∧ good q.1 := fun i hi => by
      obtain ⟨cs', h1, h2⟩ := hx i (by omega)
      obtain ⟨x, hk, hg⟩ := ho _ _ _ h2
      rw [hce] at h1
      exact ⟨(x, cs'), h1, hk, hg⟩
    obtain ⟨qs, hql, hq⟩ := pick_list len each
    refine ⟨qs.map (·.1), ⟨some a, cap, by simp [hql], by simp [hql]; omega, ?_⟩, by simp only [List.length_map, hql]; unfold maxLen at hm; omega, ?_⟩
    · refine ⟨rfl, by simp only [List.length_map, hql]; unfold maxLen at hm; omega, fun _ => ⟨a, rfl, fun j p hp => ?_⟩⟩
      rw [List.getElem?_map] at hp
      obtain ⟨q, hqj, rfl⟩ := Option.map_eq_some_iff.1 hp
      obtain ⟨h1, h2, _⟩ := hq j q hqj
      obtain ⟨_, h4, h5⟩ := World.cells?_some h1
      refine ⟨q.2, h4, h2, fun i u hu => ?_⟩
      have hi : i < d.sz := by have := (List.getElem?_eq_some_iff.1 hu).1; omega
      have h6 := h5 i hi
      rw [add_add] at h6
      rw [h6, hu]
    · intro x hx'
      obtain ⟨q, hq', rfl⟩ := List.mem_map.1 hx'
      obtain ⟨i, hi⟩ := List.getElem?_of_mem hq'
      exact (hq i q hi).2.2
end
end Go.Proofs.Ytgelpccjdndfoaa.P

namespace Go.Proofs.Ytgelpccjdndfoaa.P
open Go.RowKit Go.Proofs.YtgelpccjdndfoaaW.PrintWords Go.Proofs.YtgelpccjdndfoaaW.PrintMore Go.ChangeShapes Go.WideShapes
set_option linter.unusedVariables false
def good50 (x : S50) : Prop := (Lit.int .u32 x.f0).wf = true ∧ (Lit.int .u32 x.f1).wf = true
theorem opens_T50 {H : Type} {enc : TypeId × Value → H} {w : World} {base : Nat} {spare : Nat → Bool} {held : Bool} : Opens enc Try.prog w base spare held k50 50 good50 := by
  intro fuel cs y h
  obtain ⟨xs, n, _, _, hlen, hxl, hf⟩ := DataW.trod_struct Try.underlying50 h
  have hcs : cs.length = 2 := hlen.trans (by kernel_rfl)
  have h0 := hf 0 _ rfl
  obtain ⟨y0, e0⟩ : ∃ y_, xs[0]? = some y_ := ⟨_, List.getElem?_eq_getElem (by rw [hxl]; decide)⟩
  rw [e0] at h0
  have q0 : DataW.trod enc Try.prog w base spare held n 22 ((cs.drop 0).take 1) = some y0 := (congrArg (fun z => DataW.trod enc Try.prog w base spare held n 22 ((cs.drop 0).take z)) (show 1 = Try.prog.cellsOf 22 from by kernel_rfl)).trans h0
  obtain ⟨x0, k0_, g0⟩ := (opens_int Try.underlying22) _ _ _ q0
  have h1 := hf 1 _ rfl
  obtain ⟨y1, e1⟩ : ∃ y_, xs[1]? = some y_ := ⟨_, List.getElem?_eq_getElem (by rw [hxl]; decide)⟩
  rw [e1] at h1
  have q1 : DataW.trod enc Try.prog w base spare held n 22 ((cs.drop 1).take 1) = some y1 := (congrArg (fun z => DataW.trod enc Try.prog w base spare held n 22 ((cs.drop 1).take z)) (show 1 = Try.prog.cellsOf 22 from by kernel_rfl)).trans h1
  obtain ⟨x1, k1_, g1⟩ := (opens_int Try.underlying22) _ _ _ q1
  have s0 : cs.drop 0 = (cs.drop 0).take 1 ++ cs.drop 1 := by have e_ := (List.take_append_drop 1 (cs.drop 0)).symm; rwa [List.drop_drop] at e_
  have s1 : cs.drop 1 = (cs.drop 1).take 1 := (List.take_of_length_le (by rw [List.length_drop, hcs]; decide)).symm
  exact ⟨⟨x0, x1⟩, ⟨(cs.drop 0).take 1, cs.drop 1, (show cs = _ from s0), k0_, (by rw [s1]; exact k1_)⟩, g0, g1⟩
def good53 (x : S53) : Prop := True ∧ (x.f1.length ≤ 9223372036854775807 ∧ ∀ z_ ∈ x.f1, good50 z_)
theorem opens_T53 {H : Type} {enc : TypeId × Value → H} {w : World} {base : Nat} {spare : Nat → Bool} {held : Bool} : Opens enc Try.prog w base spare held k53 53 good53 := by
  intro fuel cs y h
  obtain ⟨xs, n, _, _, hlen, hxl, hf⟩ := DataW.trod_struct Try.underlying53 h
  have hcs : cs.length = 2 := hlen.trans (by kernel_rfl)
  have h0 := hf 0 _ rfl
  obtain ⟨y0, e0⟩ : ∃ y_, xs[0]? = some y_ := ⟨_, List.getElem?_eq_getElem (by rw [hxl]; decide)⟩
  rw [e0] at h0
  have q0 : DataW.trod enc Try.prog w base spare held n 4 ((cs.drop 0).take 1) = some y0 := (congrArg (fun z => DataW.trod enc Try.prog w base spare held n 4 ((cs.drop 0).take z)) (show 1 = Try.prog.cellsOf 4 from by kernel_rfl)).trans h0
  obtain ⟨x0, k0_, g0⟩ := (opens_bool Try.underlying4) _ _ _ q0
  have h1 := hf 1 _ rfl
  obtain ⟨y1, e1⟩ : ∃ y_, xs[1]? = some y_ := ⟨_, List.getElem?_eq_getElem (by rw [hxl]; decide)⟩
  rw [e1] at h1
  have q1 : DataW.trod enc Try.prog w base spare held n 51 ((cs.drop 1).take 1) = some y1 := (congrArg (fun z => DataW.trod enc Try.prog w base spare held n 51 ((cs.drop 1).take z)) (show 1 = Try.prog.cellsOf 51 from by kernel_rfl)).trans h1
  obtain ⟨x1, k1_, g1⟩ := (opens_slice Try.underlying51 (by kernel_rfl) opens_T50) _ _ _ q1
  have s0 : cs.drop 0 = (cs.drop 0).take 1 ++ cs.drop 1 := by have e_ := (List.take_append_drop 1 (cs.drop 0)).symm; rwa [List.drop_drop] at e_
  have s1 : cs.drop 1 = (cs.drop 1).take 1 := (List.take_of_length_le (by rw [List.length_drop, hcs]; decide)).symm
  exact ⟨⟨x0, x1⟩, ⟨(cs.drop 0).take 1, cs.drop 1, (show cs = _ from s0), k0_, (by rw [s1]; exact k1_)⟩, g0, g1⟩
def good26 (x : S26) : Prop := (Lit.int .i64 x.f0).wf = true ∧ (Lit.int .u32 x.f1).wf = true ∧ (x.f2.length ≤ 9223372036854775807 ∧ ∀ z_ ∈ x.f2, (Lit.int .u32 z_).wf = true) ∧ (x.f3.length ≤ 9223372036854775807 ∧ ∀ z_ ∈ x.f3, good53 z_)
theorem opens_T26 {H : Type} {enc : TypeId × Value → H} {w : World} {base : Nat} {spare : Nat → Bool} {held : Bool} : Opens enc Try.prog w base spare held k26 26 good26 := by
  intro fuel cs y h
  obtain ⟨xs, n, _, _, hlen, hxl, hf⟩ := DataW.trod_struct Try.underlying26 h
  have hcs : cs.length = 4 := hlen.trans (by kernel_rfl)
  have h0 := hf 0 _ rfl
  obtain ⟨y0, e0⟩ : ∃ y_, xs[0]? = some y_ := ⟨_, List.getElem?_eq_getElem (by rw [hxl]; decide)⟩
  rw [e0] at h0
  have q0 : DataW.trod enc Try.prog w base spare held n 3 ((cs.drop 0).take 1) = some y0 := (congrArg (fun z => DataW.trod enc Try.prog w base spare held n 3 ((cs.drop 0).take z)) (show 1 = Try.prog.cellsOf 3 from by kernel_rfl)).trans h0
  obtain ⟨x0, k0_, g0⟩ := (opens_int Try.underlying3) _ _ _ q0
  have h1 := hf 1 _ rfl
  obtain ⟨y1, e1⟩ : ∃ y_, xs[1]? = some y_ := ⟨_, List.getElem?_eq_getElem (by rw [hxl]; decide)⟩
  rw [e1] at h1
  have q1 : DataW.trod enc Try.prog w base spare held n 22 ((cs.drop 1).take 1) = some y1 := (congrArg (fun z => DataW.trod enc Try.prog w base spare held n 22 ((cs.drop 1).take z)) (show 1 = Try.prog.cellsOf 22 from by kernel_rfl)).trans h1
  obtain ⟨x1, k1_, g1⟩ := (opens_int Try.underlying22) _ _ _ q1
  have h2 := hf 2 _ rfl
  obtain ⟨y2, e2⟩ : ∃ y_, xs[2]? = some y_ := ⟨_, List.getElem?_eq_getElem (by rw [hxl]; decide)⟩
  rw [e2] at h2
  have q2 : DataW.trod enc Try.prog w base spare held n 23 ((cs.drop 2).take 1) = some y2 := (congrArg (fun z => DataW.trod enc Try.prog w base spare held n 23 ((cs.drop 2).take z)) (show 1 = Try.prog.cellsOf 23 from by kernel_rfl)).trans h2
  obtain ⟨x2, k2_, g2⟩ := (opens_slice Try.underlying23 (by kernel_rfl) (opens_int Try.underlying22)) _ _ _ q2
  have h3 := hf 3 _ rfl
  obtain ⟨y3, e3⟩ : ∃ y_, xs[3]? = some y_ := ⟨_, List.getElem?_eq_getElem (by rw [hxl]; decide)⟩
  rw [e3] at h3
  have q3 : DataW.trod enc Try.prog w base spare held n 24 ((cs.drop 3).take 1) = some y3 := (congrArg (fun z => DataW.trod enc Try.prog w base spare held n 24 ((cs.drop 3).take z)) (show 1 = Try.prog.cellsOf 24 from by kernel_rfl)).trans h3
  obtain ⟨x3, k3_, g3⟩ := (opens_slice Try.underlying24 (by kernel_rfl) opens_T53) _ _ _ q3
  have s0 : cs.drop 0 = (cs.drop 0).take 1 ++ cs.drop 1 := by have e_ := (List.take_append_drop 1 (cs.drop 0)).symm; rwa [List.drop_drop] at e_
  have s1 : cs.drop 1 = (cs.drop 1).take 1 ++ cs.drop 2 := by have e_ := (List.take_append_drop 1 (cs.drop 1)).symm; rwa [List.drop_drop] at e_
  have s2 : cs.drop 2 = (cs.drop 2).take 1 ++ cs.drop 3 := by have e_ := (List.take_append_drop 1 (cs.drop 2)).symm; rwa [List.drop_drop] at e_
  have s3 : cs.drop 3 = (cs.drop 3).take 1 := (List.take_of_length_le (by rw [List.length_drop, hcs]; decide)).symm
  exact ⟨⟨x0, x1, x2, x3⟩, ⟨(cs.drop 0).take 1, cs.drop 1, (show cs = _ from s0), k0_, ⟨(cs.drop 1).take 1, cs.drop 2, s1, k1_, ⟨(cs.drop 2).take 1, cs.drop 3, s2, k2_, (by rw [s3]; exact k3_)⟩⟩⟩, g0, g1, g2, g3⟩
def good28 (x : S28) : Prop := (Lit.int .u32 x.f0).wf = true ∧ (Lit.int .i64 x.f1).wf = true
theorem opens_T28 {H : Type} {enc : TypeId × Value → H} {w : World} {base : Nat} {spare : Nat → Bool} {held : Bool} : Opens enc Try.prog w base spare held k28 28 good28 := by
  intro fuel cs y h
  obtain ⟨xs, n, _, _, hlen, hxl, hf⟩ := DataW.trod_struct Try.underlying28 h
  have hcs : cs.length = 2 := hlen.trans (by kernel_rfl)
  have h0 := hf 0 _ rfl
  obtain ⟨y0, e0⟩ : ∃ y_, xs[0]? = some y_ := ⟨_, List.getElem?_eq_getElem (by rw [hxl]; decide)⟩
  rw [e0] at h0
  have q0 : DataW.trod enc Try.prog w base spare held n 22 ((cs.drop 0).take 1) = some y0 := (congrArg (fun z => DataW.trod enc Try.prog w base spare held n 22 ((cs.drop 0).take z)) (show 1 = Try.prog.cellsOf 22 from by kernel_rfl)).trans h0
  obtain ⟨x0, k0_, g0⟩ := (opens_int Try.underlying22) _ _ _ q0
  have h1 := hf 1 _ rfl
  obtain ⟨y1, e1⟩ : ∃ y_, xs[1]? = some y_ := ⟨_, List.getElem?_eq_getElem (by rw [hxl]; decide)⟩
  rw [e1] at h1
  have q1 : DataW.trod enc Try.prog w base spare held n 3 ((cs.drop 1).take 1) = some y1 := (congrArg (fun z => DataW.trod enc Try.prog w base spare held n 3 ((cs.drop 1).take z)) (show 1 = Try.prog.cellsOf 3 from by kernel_rfl)).trans h1
  obtain ⟨x1, k1_, g1⟩ := (opens_int Try.underlying3) _ _ _ q1
  have s0 : cs.drop 0 = (cs.drop 0).take 1 ++ cs.drop 1 := by have e_ := (List.take_append_drop 1 (cs.drop 0)).symm; rwa [List.drop_drop] at e_
  have s1 : cs.drop 1 = (cs.drop 1).take 1 := (List.take_of_length_le (by rw [List.length_drop, hcs]; decide)).symm
  exact ⟨⟨x0, x1⟩, ⟨(cs.drop 0).take 1, cs.drop 1, (show cs = _ from s0), k0_, (by rw [s1]; exact k1_)⟩, g0, g1⟩
def good30 (x : S30) : Prop := good28 x.f0 ∧ (x.f1.length ≤ 9223372036854775807 ∧ ∀ z_ ∈ x.f1, (Lit.int .u32 z_).wf = true) ∧ (x.f2.length ≤ 9223372036854775807 ∧ ∀ z_ ∈ x.f2, (Lit.int .u32 z_).wf = true) ∧ (Lit.int .u32 x.f3).wf = true ∧ (Lit.int .u32 x.f4).wf = true ∧ (Lit.int .i64 x.f5).wf = true ∧ (Lit.int .u32 x.f6).wf = true
theorem opens_T30 {H : Type} {enc : TypeId × Value → H} {w : World} {base : Nat} {spare : Nat → Bool} {held : Bool} : Opens enc Try.prog w base spare held k30 30 good30 := by
  intro fuel cs y h
  obtain ⟨xs, n, _, _, hlen, hxl, hf⟩ := DataW.trod_struct Try.underlying30 h
  have hcs : cs.length = 8 := hlen.trans (by kernel_rfl)
  have h0 := hf 0 _ rfl
  obtain ⟨y0, e0⟩ : ∃ y_, xs[0]? = some y_ := ⟨_, List.getElem?_eq_getElem (by rw [hxl]; decide)⟩
  rw [e0] at h0
  have q0 : DataW.trod enc Try.prog w base spare held n 28 ((cs.drop 0).take 2) = some y0 := (congrArg (fun z => DataW.trod enc Try.prog w base spare held n 28 ((cs.drop 0).take z)) (show 2 = Try.prog.cellsOf 28 from by kernel_rfl)).trans h0
  obtain ⟨x0, k0_, g0⟩ := opens_T28 _ _ _ q0
  have h1 := hf 1 _ rfl
  obtain ⟨y1, e1⟩ : ∃ y_, xs[1]? = some y_ := ⟨_, List.getElem?_eq_getElem (by rw [hxl]; decide)⟩
  rw [e1] at h1
  have q1 : DataW.trod enc Try.prog w base spare held n 23 ((cs.drop 2).take 1) = some y1 := (congrArg (fun z => DataW.trod enc Try.prog w base spare held n 23 ((cs.drop 2).take z)) (show 1 = Try.prog.cellsOf 23 from by kernel_rfl)).trans h1
  obtain ⟨x1, k1_, g1⟩ := (opens_slice Try.underlying23 (by kernel_rfl) (opens_int Try.underlying22)) _ _ _ q1
  have h2 := hf 2 _ rfl
  obtain ⟨y2, e2⟩ : ∃ y_, xs[2]? = some y_ := ⟨_, List.getElem?_eq_getElem (by rw [hxl]; decide)⟩
  rw [e2] at h2
  have q2 : DataW.trod enc Try.prog w base spare held n 23 ((cs.drop 3).take 1) = some y2 := (congrArg (fun z => DataW.trod enc Try.prog w base spare held n 23 ((cs.drop 3).take z)) (show 1 = Try.prog.cellsOf 23 from by kernel_rfl)).trans h2
  obtain ⟨x2, k2_, g2⟩ := (opens_slice Try.underlying23 (by kernel_rfl) (opens_int Try.underlying22)) _ _ _ q2
  have h3 := hf 3 _ rfl
  obtain ⟨y3, e3⟩ : ∃ y_, xs[3]? = some y_ := ⟨_, List.getElem?_eq_getElem (by rw [hxl]; decide)⟩
  rw [e3] at h3
  have q3 : DataW.trod enc Try.prog w base spare held n 22 ((cs.drop 4).take 1) = some y3 := (congrArg (fun z => DataW.trod enc Try.prog w base spare held n 22 ((cs.drop 4).take z)) (show 1 = Try.prog.cellsOf 22 from by kernel_rfl)).trans h3
  obtain ⟨x3, k3_, g3⟩ := (opens_int Try.underlying22) _ _ _ q3
  have h4 := hf 4 _ rfl
  obtain ⟨y4, e4⟩ : ∃ y_, xs[4]? = some y_ := ⟨_, List.getElem?_eq_getElem (by rw [hxl]; decide)⟩
  rw [e4] at h4
  have q4 : DataW.trod enc Try.prog w base spare held n 22 ((cs.drop 5).take 1) = some y4 := (congrArg (fun z => DataW.trod enc Try.prog w base spare held n 22 ((cs.drop 5).take z)) (show 1 = Try.prog.cellsOf 22 from by kernel_rfl)).trans h4
  obtain ⟨x4, k4_, g4⟩ := (opens_int Try.underlying22) _ _ _ q4
  have h5 := hf 5 _ rfl
  obtain ⟨y5, e5⟩ : ∃ y_, xs[5]? = some y_ := ⟨_, List.getElem?_eq_getElem (by rw [hxl]; decide)⟩
  rw [e5] at h5
  have q5 : DataW.trod enc Try.prog w base spare held n 3 ((cs.drop 6).take 1) = some y5 := (congrArg (fun z => DataW.trod enc Try.prog w base spare held n 3 ((cs.drop 6).take z)) (show 1 = Try.prog.cellsOf 3 from by kernel_rfl)).trans h5
  obtain ⟨x5, k5_, g5⟩ := (opens_int Try.underlying3) _ _ _ q5
  have h6 := hf 6 _ rfl
  obtain ⟨y6, e6⟩ : ∃ y_, xs[6]? = some y_ := ⟨_, List.getElem?_eq_getElem (by rw [hxl]; decide)⟩
  rw [e6] at h6
  have q6 : DataW.trod enc Try.prog w base spare held n 22 ((cs.drop 7).take 1) = some y6 := (congrArg (fun z => DataW.trod enc Try.prog w base spare held n 22 ((cs.drop 7).take z)) (show 1 = Try.prog.cellsOf 22 from by kernel_rfl)).trans h6
  obtain ⟨x6, k6_, g6⟩ := (opens_int Try.underlying22) _ _ _ q6
  have s0 : cs.drop 0 = (cs.drop 0).take 2 ++ cs.drop 2 := by have e_ := (List.take_append_drop 2 (cs.drop 0)).symm; rwa [List.drop_drop] at e_
  have s1 : cs.drop 2 = (cs.drop 2).take 1 ++ cs.drop 3 := by have e_ := (List.take_append_drop 1 (cs.drop 2)).symm; rwa [List.drop_drop] at e_
  have s2 : cs.drop 3 = (cs.drop 3).take 1 ++ cs.drop 4 := by have e_ := (List.take_append_drop 1 (cs.drop 3)).symm; rwa [List.drop_drop] at e_
  have s3 : cs.drop 4 = (cs.drop 4).take 1 ++ cs.drop 5 := by have e_ := (List.take_append_drop 1 (cs.drop 4)).symm; rwa [List.drop_drop] at e_
  have s4 : cs.drop 5 = (cs.drop 5).take 1 ++ cs.drop 6 := by have e_ := (List.take_append_drop 1 (cs.drop 5)).symm; rwa [List.drop_drop] at e_
  have s5 : cs.drop 6 = (cs.drop 6).take 1 ++ cs.drop 7 := by have e_ := (List.take_append_drop 1 (cs.drop 6)).symm; rwa [List.drop_drop] at e_
  have s6 : cs.drop 7 = (cs.drop 7).take 1 := (List.take_of_length_le (by rw [List.length_drop, hcs]; decide)).symm
  exact ⟨⟨x0, x1, x2, x3, x4, x5, x6⟩, ⟨(cs.drop 0).take 2, cs.drop 2, (show cs = _ from s0), k0_, ⟨(cs.drop 2).take 1, cs.drop 3, s1, k1_, ⟨(cs.drop 3).take 1, cs.drop 4, s2, k2_, ⟨(cs.drop 4).take 1, cs.drop 5, s3, k3_, ⟨(cs.drop 5).take 1, cs.drop 6, s4, k4_, ⟨(cs.drop 6).take 1, cs.drop 7, s5, k5_, (by rw [s6]; exact k6_)⟩⟩⟩⟩⟩⟩, g0, g1, g2, g3, g4, g5, g6⟩
end Go.Proofs.Ytgelpccjdndfoaa.P

namespace Go.Proofs.Ytgelpccjdndfoaa.P
open Go.RowKit Go.Proofs.YtgelpccjdndfoaaW.PrintWords Go.Proofs.YtgelpccjdndfoaaW.PrintLast Go.Proofs.YtgelpccjdndfoaaW.PrintMore
attribute [local go_sem] max2_int min2_int max_two min_two max_three min_three max_four min_four
set_option linter.unusedVariables false
set_option linter.unusedSimpArgs false

/-! ### act_All: function 22 -/
def q19z.l0 : Nat → List (S26) → Int → Int → Int → Int → List Int → List Int → Int → Int → Int → Int → Option (Int × Int × List Int × List Int × Int × Int × Int × Int)
 | 0, _, _, _, _, _, _, _, _, _, _, _ => none
 | k + 1, x9, x10, x11, x2000, x2001, x2002, x2003, x2004, x2005, x2006, x2007 => if x11 < x10 then (if 0 ≤ x11 then (if x11 < (x9.length : Int) then ((q9z.f k ((rd_T26 x9 x11).f0) ((rd_T26 x9 x11).f1) ((rd_T26 x9 x11).f2) ((rd_T26 x9 x11).f3) x2000 x2001 x2002 x2003 x2004 x2005 x2006 x2007).bind fun bt17 => (q19z.l0 k x9 x10 (wrap64 (x11 + 1)) bt17.1 bt17.2.1 bt17.2.2.1 bt17.2.2.2.1 bt17.2.2.2.2.1 bt17.2.2.2.2.2.1 bt17.2.2.2.2.2.2.1 bt17.2.2.2.2.2.2.2)) else (none)) else (none)) else (some (x2000, x2001, x2002, x2003, x2004, x2005, x2006, x2007))
def q19z.f (k : Nat) (l0 : List (S26)) (a1_0 : Int) (a1_1 : Int) (l1_2 : List Int) (l1_3 : List Int) (a1_4 : Int) (a1_5 : Int) (a1_6 : Int) (a1_7 : Int) : Option (Int × Int × List Int × List Int × Int × Int × Int × Int) := (q6z.f a1_0 a1_1 l1_2 l1_3 a1_4 a1_5 a1_6 a1_7).bind fun bt3 => (q19z.l0 k l0 (l0.length : Int) 0 bt3.1 bt3.2.1 bt3.2.2.1 bt3.2.2.2.1 bt3.2.2.2.2.1 bt3.2.2.2.2.2.1 bt3.2.2.2.2.2.2.1 bt3.2.2.2.2.2.2.2)
theorem q19z.mono_l : ∀ k, (∀ y0 y1 y2 y3 y4 y5 y6 y7 y8 y9 y10, LeO (q19z.l0 k y0 y1 y2 y3 y4 y5 y6 y7 y8 y9 y10) (q19z.l0 (k + 1) y0 y1 y2 y3 y4 y5 y6 y7 y8 y9 y10))
 | 0 => fun _ _ _ _ _ _ _ _ _ _ _ r h => by simp [q19z.l0] at h
 | k + 1 => by
  have ih0 := q19z.mono_l k
  ·
   intro y0 y1 y2 y3 y4 y5 y6 y7 y8 y9 y10
   unfold q19z.l0
   repeat' first
   | (with_reducible exact ih0 _ _ _ _ _ _ _ _ _ _ _)
   | (with_reducible exact q9z.mono _ _ _ _ _ _ _ _ _ _ _ _ _)
   | (with_reducible exact LeO.refl _)
   | (with_reducible exact LeO.none _)
   | (with_reducible refine LeO.ite ?_ ?_)
   | (with_reducible refine LeO.bind ?_ (fun _ => ?_))
   | exact ih0 _ _ _ _ _ _ _ _ _ _ _
   | exact q9z.mono _ _ _ _ _ _ _ _ _ _ _ _ _
   | exact LeO.none _
   | refine LeO.ite ?_ ?_
   | refine LeO.bind ?_ (fun _ => ?_)
theorem q19z.mono : ∀ a0 a1 a2 a3 a4 a5 a6 a7 a8 k, LeO (q19z.f k a0 a1 a2 a3 a4 a5 a6 a7 a8) (q19z.f (k + 1) a0 a1 a2 a3 a4 a5 a6 a7 a8) := by
 intro a0 a1 a2 a3 a4 a5 a6 a7 a8 k
 have ih0 := q19z.mono_l k
 unfold q19z.f
 repeat' first
   | (with_reducible exact ih0 _ _ _ _ _ _ _ _ _ _ _)
   | (with_reducible exact q9z.mono _ _ _ _ _ _ _ _ _ _ _ _ _)
   | (with_reducible exact LeO.refl _)
   | (with_reducible exact LeO.none _)
   | (with_reducible refine LeO.ite ?_ ?_)
   | (with_reducible refine LeO.bind ?_ (fun _ => ?_))
   | exact ih0 _ _ _ _ _ _ _ _ _ _ _
   | exact q9z.mono _ _ _ _ _ _ _ _ _ _ _ _ _
   | exact LeO.none _
   | refine LeO.ite ?_ ?_
   | refine LeO.bind ?_ (fun _ => ?_)
set_option maxHeartbeats 8000000 in
set_option maxRecDepth 100000 in
theorem q19z.calls (k : Nat) (A0 : Option Addr) (c0 : Nat) (l0 : List (S26)) (a1_0 : Int) (a1_1 : Int) (A1_2 : Option Addr) (c1_2 : Nat) (l1_2 : List Int) (A1_3 : Option Addr) (c1_3 : Nat) (l1_3 : List Int) (a1_4 : Int) (a1_5 : Int) (a1_6 : Int) (a1_7 : Int) (r1 : Int) (r2 : Int) (r3 : List Int) (r4 : List Int) (r5 : Int) (r6 : Int) (r7 : Int) (r8 : Int) (w : World) (hr0 : Kd.C k26 w A0 l0.length l0) (hc0 : l0.length ≤ c0) (hr1_2 : Kd.C (Kd.int .u32) w A1_2 l1_2.length l1_2) (hc1_2 : l1_2.length ≤ c1_2) (hr1_3 : Kd.C (Kd.int .u32) w A1_3 l1_3.length l1_3) (hc1_3 : l1_3.length ≤ c1_3) (h : q19z.f k l0 a1_0 a1_1 l1_2 l1_3 a1_4 a1_5 a1_6 a1_7 = some (r1, r2, r3, r4, r5, r6, r7, r8)) :
  Calls Try.prog 22 #[.slice A0 l0.length c0, .agg #[.int .u32 a1_0, .int .i64 a1_1, .slice A1_2 l1_2.length c1_2, .slice A1_3 l1_3.length c1_3, .int .u32 a1_4, .int .u32 a1_5, .int .i64 a1_6, .int .u32 a1_7]] w fun e w' => ∃ v2_ v3_ : Value, e = .returned (.agg #[.int .u32 r1, .int .i64 r2, v2_, v3_, .int .u32 r5, .int .u32 r6, .int .i64 r7, .int .u32 r8]) ∧ Kd.R (Kd.int .u32) 22 w' w.heap.size (fun k_ => some k_ ≠ (v3_ : Value).ownBlock) v2_ r3 ∧ Kd.R (Kd.int .u32) 22 w' w.heap.size (fun k_ => some k_ ≠ (v2_ : Value).ownBlock) v3_ r4 ∧ Below w.heap.size w w' := by
 have hu30 := Try.underlying30
 have hu26 := Try.underlying26
 have HR0 := Aside0.mk hr0
 have HC0 := Aside0.mk hc0
 clear hr0 hc0
 have HR1_2 := Aside0.mk hr1_2
 have HC1_2 := Aside0.mk hc1_2
 clear hr1_2 hc1_2
 have HR1_3 := Aside0.mk hr1_3
 have HC1_3 := Aside0.mk hc1_3
 clear hr1_3 hc1_3
 have HB := Aside0.mk (Below.refl w.heap.size w)
 have H : ((q6z.f a1_0 a1_1 l1_2 l1_3 a1_4 a1_5 a1_6 a1_7).bind fun bt3 => (q19z.l0 k l0 (l0.length : Int) 0 bt3.1 bt3.2.1 bt3.2.2.1 bt3.2.2.2.1 bt3.2.2.2.2.1 bt3.2.2.2.2.2.1 bt3.2.2.2.2.2.2.1 bt3.2.2.2.2.2.2.2)) = some (r1, r2, r3, r4, r5, r6, r7, r8) := h
 clear h
 replace H := Option.bind_eq_some_iff.mp H
 obtain ⟨⟨t3, t4, t5, t8, t11, t12, t13, t14⟩, A30, H⟩ := H
 replace H : (q19z.l0 k l0 (l0.length : Int) 0 t3 t4 t5 t8 t11 t12 t13 t14) = some (r1, r2, r3, r4, r5, r6, r7, r8) := H
 have A3 := Aside0.mk A30
 clear A30
 have H' := Aside0.mk H
 clear H
 go_enter Try.func22, Try.ntmps22
 go_wp2_with (first | ((with_reducible refine gate_dst (N := 3) rfl ?_); refine box_event ?hg (N := 3) ?hd (cs := #[.int .u32 a1_0, .int .i64 a1_1, .slice A1_2 l1_2.length c1_2, .slice A1_3 l1_3.length c1_3, .int .u32 a1_4, .int .u32 a1_5, .int .i64 a1_6, .int .u32 a1_7]) (t := 30) ?hr ?_; (case hd => rfl); (case hg => rfl); (case hr => first | (go_simp; done) | (go_simp; rfl)); intro gb1 hg w4 hbox hb; have BK1 := Aside0.mk (hbox); have GW1 := Aside0.mk ((by rw [hg]; exact (below_size (hbW HB)) : w.heap.size ≤ gb1)); have GE1 := Aside0.mk ((by rw [hg]; exact (below_size (hbW HB)) : w.heap.size ≤ gb1)); replace HB := hbS HB hb; clear hb hbox hg) | ((with_reducible refine gate_dst (N := 4) rfl ?_); refine box_event ?hg (N := 4) ?hd (cs := #[.int .u32 0, .int .i64 0, .slice none 0 0, .slice none 0 0, .int .u32 0, .int .u32 0, .int .i64 0, .int .u32 0]) (t := 30) ?hr ?_; (case hd => rfl); (case hg => rfl); (case hr => first | (go_simp; done) | (go_simp; rfl)); intro gb2 hg w5 hbox hb; have BK2 := Aside0.mk (hbox); have GW2 := Aside0.mk ((by rw [hg]; exact (below_size (hbW HB)) : w.heap.size ≤ gb2)); have GE2 := Aside0.mk ((by rw [hg]; exact (below_size (hbW HB)) : w.heap.size ≤ gb2)); have NB1_2 := Aside0.mk ((by rw [hg]; exact Nat.ne_of_lt (blk_lt (bkW BK1)) : gb1 ≠ gb2)); have NB2_1 := Aside0.mk ((by rw [hg]; exact Nat.ne_of_gt (blk_lt (bkW BK1)) : gb2 ≠ gb1)); replace BK1 := bkB BK1 hb; replace HB := hbS HB hb; clear hb hbox hg; have hnb6 := NB1_2.out; have hnc6 := NB2_1.out; obtain ⟨hcz7_0, hcz7_1, hcz7_2, hcz7_3, hcz7_4, hcz7_5, hcz7_6, hcz7_7, hfz7_0, hfz7_1, hfz7_2, hfz7_3, hfz7_4, hfz7_5, hfz7_6, hfz7_7⟩ := bc8 BK1) | ((with_reducible refine gate_callee (f := 26) rfl ?_); refine goesL_ (some 8) rfl rfl Try.func26 (by kernel_rfl) rfl #[.agg #[.int .u32 a1_0, .int .i64 a1_1, .slice A1_2 l1_2.length c1_2, .slice A1_3 l1_3.length c1_3, .int .u32 a1_4, .int .u32 a1_5, .int .i64 a1_6, .int .u32 a1_7]] rfl (by (try simp only [List.map_toArray, List.map_cons, List.map_nil]); first | done | rfl | (simp only [List.length_drop, List.length_take]; rfl)) ?_; (with_reducible refine (q6z.calls a1_0 a1_1 _ _ l1_2 _ _ l1_3 a1_4 a1_5 a1_6 a1_7 t3 t4 t5 t8 t11 t12 t13 t14 _ ?side1 ?side2 ?side3 ?side4 A3.out).mono ?_); (case side1 => repeat (first | exact (Kd.C_below HR1_2.out HB.out) | (with_reducible refine Kd.C_alloc ?_ _) | (with_reducible refine Kd.C_drewN ?_ _) | (with_reducible refine Kd.C_drew ?_))); (case side2 => exact HC1_2.out); (case side3 => repeat (first | exact (Kd.C_below HR1_3.out HB.out) | (with_reducible refine Kd.C_alloc ?_ _) | (with_reducible refine Kd.C_drewN ?_ _) | (with_reducible refine Kd.C_drew ?_))); (case side4 => exact HC1_3.out); rintro e w8 ⟨v6, v9, rfl, ho0, ho1, hb⟩; refine ⟨_, rfl, ?_⟩; have HO7 := Aside0.mk (Kd.R_lower ho0 (below_size (hbW HB))); have HO10 := Aside0.mk (Kd.R_lower ho1 (below_size (hbW HB))); replace BK1 := bkB BK1 hb; replace BK2 := bkB BK2 hb; replace HB := hbS HB hb; (try clear hb); (try clear ho0); (try clear ho1); obtain ⟨hcz9_0, hcz9_1, hcz9_2, hcz9_3, hcz9_4, hcz9_5, hcz9_6, hcz9_7, hfz9_0, hfz9_1, hfz9_2, hfz9_3, hfz9_4, hfz9_5, hfz9_6, hfz9_7⟩ := bc8 BK1; obtain ⟨Ao10, co10, eo10⟩ := Kd.R_slice HO7.out; subst eo10; obtain ⟨Ao11, co11, eo11⟩ := Kd.R_slice HO10.out; subst eo11))
 go_loopg [11] k (fun kq v11 w' => ∃ (x11_1 : Int) (x2000_1 : Int) (x2001_1 : Int) (x2002_1 : List Int) (x2003_1 : List Int) (x2004_1 : Int) (x2005_1 : Int) (x2006_1 : Int) (x2007_1 : Int) (u2002 : Value) (u2003 : Value), v11 = .int .i64 x11_1 ∧ Aside0 (q19z.l0 kq l0 (l0.length : Int) x11_1 x2000_1 x2001_1 x2002_1 x2003_1 x2004_1 x2005_1 x2006_1 x2007_1 = some (r1, r2, r3, r4, r5, r6, r7, r8)) ∧ Aside0 (kq ≤ k) ∧ Aside0 (Kd.R (Kd.int .u32) 22 w' w.heap.size (fun k_ => some k_ ≠ (u2003 : Value).ownBlock) u2002 x2002_1) ∧ Aside0 (Kd.R (Kd.int .u32) 22 w' w.heap.size (fun k_ => some k_ ≠ (u2002 : Value).ownBlock) u2003 x2003_1) ∧ Aside0 (w'.heap[gb1]? = some (.cells #[.int .u32 x2000_1, .int .i64 x2001_1, u2002, u2003, .int .u32 x2004_1, .int .u32 x2005_1, .int .i64 x2006_1, .int .u32 x2007_1] 30 (0, 0))) ∧ Aside0 (w'.heap[gb2]? = some (.cells #[.int .u32 0, .int .i64 0, (.slice none 0 0), (.slice none 0 0), .int .u32 0, .int .u32 0, .int .i64 0, .int .u32 0] 30 (0, 0))) ∧ Aside0 (Below w.heap.size w w'))
 case atStart => exact ⟨(0), (t3), (t4), (t5), (t8), (t11), (t12), (t13), (t14), (.slice Ao10 t5.length co10), (.slice Ao11 t8.length co11), (by first | rfl | (simp; done) | (simp [*]; done)), H', ⟨Nat.le_refl _⟩, ⟨by (with_reducible repeat (first | apply Kd.R_alloc | apply Kd.R_drewN | apply Kd.R_drew)); exact Kd.R_mono (Kd.R_far (p := ⟨gb1, 7, none⟩) (Kd.R_far (p := ⟨gb1, 6, none⟩) (Kd.R_far (p := ⟨gb1, 5, none⟩) (Kd.R_far (p := ⟨gb1, 4, none⟩) (Kd.R_far (p := ⟨gb1, 3, none⟩) (Kd.R_far (p := ⟨gb1, 2, none⟩) (Kd.R_far (p := ⟨gb1, 1, none⟩) (Kd.R_far (p := ⟨gb1, 0, none⟩) (Kd.R_types HO7.out BK1.out (by decide)) (fun _ hk => hk.2) (.int .u32 t3)) (fun _ hk => hk.2) (.int .i64 t4)) (fun _ hk => hk.2) (.slice Ao10 t5.length co10)) (fun _ hk => hk.2) (.slice Ao11 t8.length co11)) (fun _ hk => hk.2) (.int .u32 t11)) (fun _ hk => hk.2) (.int .u32 t12)) (fun _ hk => hk.2) (.int .i64 t13)) (fun _ hk => hk.2) (.int .u32 t14)) (fun _ hk => hk.1)⟩, ⟨by (with_reducible repeat (first | apply Kd.R_alloc | apply Kd.R_drewN | apply Kd.R_drew)); exact Kd.R_mono (Kd.R_far (p := ⟨gb1, 7, none⟩) (Kd.R_far (p := ⟨gb1, 6, none⟩) (Kd.R_far (p := ⟨gb1, 5, none⟩) (Kd.R_far (p := ⟨gb1, 4, none⟩) (Kd.R_far (p := ⟨gb1, 3, none⟩) (Kd.R_far (p := ⟨gb1, 2, none⟩) (Kd.R_far (p := ⟨gb1, 1, none⟩) (Kd.R_far (p := ⟨gb1, 0, none⟩) (Kd.R_types HO10.out BK1.out (by decide)) (fun _ hk => hk.2) (.int .u32 t3)) (fun _ hk => hk.2) (.int .i64 t4)) (fun _ hk => hk.2) (.slice Ao10 t5.length co10)) (fun _ hk => hk.2) (.slice Ao11 t8.length co11)) (fun _ hk => hk.2) (.int .u32 t11)) (fun _ hk => hk.2) (.int .u32 t12)) (fun _ hk => hk.2) (.int .i64 t13)) (fun _ hk => hk.2) (.int .u32 t14)) (fun _ hk => hk.1)⟩, ⟨by (with_reducible repeat (first | refine blk_drewN ?_ _ | refine blk_drew ?_ | refine blk_alloc ?_ _)); refine blk_put (cs := #[.int .u32 t3, .int .i64 t4, .slice Ao10 t5.length co10, .slice Ao11 t8.length co11, .int .u32 t11, .int .u32 t12, .int .i64 t13, .int .u32 a1_7]) ?_ 7 _ rfl; (with_reducible repeat (first | refine blk_drewN ?_ _ | refine blk_drew ?_ | refine blk_alloc ?_ _)); refine blk_put (cs := #[.int .u32 t3, .int .i64 t4, .slice Ao10 t5.length co10, .slice Ao11 t8.length co11, .int .u32 t11, .int .u32 t12, .int .i64 a1_6, .int .u32 a1_7]) ?_ 6 _ rfl; (with_reducible repeat (first | refine blk_drewN ?_ _ | refine blk_drew ?_ | refine blk_alloc ?_ _)); refine blk_put (cs := #[.int .u32 t3, .int .i64 t4, .slice Ao10 t5.length co10, .slice Ao11 t8.length co11, .int .u32 t11, .int .u32 a1_5, .int .i64 a1_6, .int .u32 a1_7]) ?_ 5 _ rfl; (with_reducible repeat (first | refine blk_drewN ?_ _ | refine blk_drew ?_ | refine blk_alloc ?_ _)); refine blk_put (cs := #[.int .u32 t3, .int .i64 t4, .slice Ao10 t5.length co10, .slice Ao11 t8.length co11, .int .u32 a1_4, .int .u32 a1_5, .int .i64 a1_6, .int .u32 a1_7]) ?_ 4 _ rfl; (with_reducible repeat (first | refine blk_drewN ?_ _ | refine blk_drew ?_ | refine blk_alloc ?_ _)); refine blk_put (cs := #[.int .u32 t3, .int .i64 t4, .slice Ao10 t5.length co10, .slice A1_3 l1_3.length c1_3, .int .u32 a1_4, .int .u32 a1_5, .int .i64 a1_6, .int .u32 a1_7]) ?_ 3 _ rfl; (with_reducible repeat (first | refine blk_drewN ?_ _ | refine blk_drew ?_ | refine blk_alloc ?_ _)); refine blk_put (cs := #[.int .u32 t3, .int .i64 t4, .slice A1_2 l1_2.length c1_2, .slice A1_3 l1_3.length c1_3, .int .u32 a1_4, .int .u32 a1_5, .int .i64 a1_6, .int .u32 a1_7]) ?_ 2 _ rfl; (with_reducible repeat (first | refine blk_drewN ?_ _ | refine blk_drew ?_ | refine blk_alloc ?_ _)); refine blk_put (cs := #[.int .u32 t3, .int .i64 a1_1, .slice A1_2 l1_2.length c1_2, .slice A1_3 l1_3.length c1_3, .int .u32 a1_4, .int .u32 a1_5, .int .i64 a1_6, .int .u32 a1_7]) ?_ 1 _ rfl; (with_reducible repeat (first | refine blk_drewN ?_ _ | refine blk_drew ?_ | refine blk_alloc ?_ _)); refine blk_put (cs := #[.int .u32 a1_0, .int .i64 a1_1, .slice A1_2 l1_2.length c1_2, .slice A1_3 l1_3.length c1_3, .int .u32 a1_4, .int .u32 a1_5, .int .i64 a1_6, .int .u32 a1_7]) ?_ 0 _ rfl; (with_reducible repeat (first | refine blk_drewN ?_ _ | refine blk_drew ?_ | refine blk_alloc ?_ _)); exact BK1.out⟩, ⟨by (with_reducible repeat (first | refine blk_drewN ?_ _ | refine blk_drew ?_ | refine blk_alloc ?_ _)); refine blk_far ?_ NB2_1.out _; (with_reducible repeat (first | refine blk_drewN ?_ _ | refine blk_drew ?_ | refine blk_alloc ?_ _)); refine blk_far ?_ NB2_1.out _; (with_reducible repeat (first | refine blk_drewN ?_ _ | refine blk_drew ?_ | refine blk_alloc ?_ _)); refine blk_far ?_ NB2_1.out _; (with_reducible repeat (first | refine blk_drewN ?_ _ | refine blk_drew ?_ | refine blk_alloc ?_ _)); refine blk_far ?_ NB2_1.out _; (with_reducible repeat (first | refine blk_drewN ?_ _ | refine blk_drew ?_ | refine blk_alloc ?_ _)); refine blk_far ?_ NB2_1.out _; (with_reducible repeat (first | refine blk_drewN ?_ _ | refine blk_drew ?_ | refine blk_alloc ?_ _)); refine blk_far ?_ NB2_1.out _; (with_reducible repeat (first | refine blk_drewN ?_ _ | refine blk_drew ?_ | refine blk_alloc ?_ _)); refine blk_far ?_ NB2_1.out _; (with_reducible repeat (first | refine blk_drewN ?_ _ | refine blk_drew ?_ | refine blk_alloc ?_ _)); refine blk_far ?_ NB2_1.out _; (with_reducible repeat (first | refine blk_drewN ?_ _ | refine blk_drew ?_ | refine blk_alloc ?_ _)); exact BK2.out⟩, ⟨hbW HB⟩⟩
 case round =>
  clear H'
  try clear c1
  try clear c2
  try clear p2
  try clear c6
  try clear hcz7_0
  try clear hcz7_1
  try clear hcz7_2
  try clear hcz7_3
  try clear hcz7_4
  try clear hcz7_5
  try clear hcz7_6
  try clear hcz7_7
  try clear hcz9_0
  try clear hcz9_1
  try clear hcz9_2
  try clear hcz9_3
  try clear hcz9_4
  try clear hcz9_5
  try clear hcz9_6
  try clear hcz9_7
  try clear hfz7_0
  try clear hfz7_1
  try clear hfz7_2
  try clear hfz7_3
  try clear hfz7_4
  try clear hfz7_5
  try clear hfz7_6
  try clear hfz7_7
  try clear hfz9_0
  try clear hfz9_1
  try clear hfz9_2
  try clear hfz9_3
  try clear hfz9_4
  try clear hfz9_5
  try clear hfz9_6
  try clear hfz9_7
  obtain ⟨x11_1, x2000_1, x2001_1, x2002_1, x2003_1, x2004_1, x2005_1, x2006_1, x2007_1, u2002, u2003, rfl, HA, HK1, HO_2002, HO_2003, BK1, BK2, HB⟩ := hrel
  cases gk with
  | zero => exact absurd HA.out (by simp [q19z.l0])
  | succ k1 =>
   have H := HA.out
   clear HA
   simp only [q19z.l0] at H
   by_cases c12 : x11_1 < (l0.length : Int)
   ·
    rw [if_pos c12] at H
    have c12b0 : decide (x11_1 < (l0.length : Int)) = true := decide_eq_true c12
    clear c12
    by_cases c13 : 0 ≤ x11_1
    ·
     rw [if_pos c13] at H
     have c13b0 : decide (0 ≤ x11_1) = true := decide_eq_true c13
     clear c13
     by_cases c14 : x11_1 < (l0.length : Int)
     ·
      rw [if_pos c14] at H
      have c14b0 : decide (x11_1 < (l0.length : Int)) = true := decide_eq_true c14
      clear c14
      replace H := Option.bind_eq_some_iff.mp H
      obtain ⟨⟨t17, t18, t19, t22, t25, t26, t27, t28⟩, A150, H⟩ := H
      replace H : (q19z.l0 k1 l0 (l0.length : Int) (wrap64 (x11_1 + 1)) t17 t18 t19 t22 t25 t26 t27 t28) = some (r1, r2, r3, r4, r5, r6, r7, r8) := H
      have A15 := Aside0.mk A150
      clear A150
      have H' := Aside0.mk H
      clear H
      have p15 : 0 ≤ (x11_1 : Int) := of_decide_eq_true (by first | (with_reducible assumption) | assumption)
      have q15 : x11_1 < (l0.length : Int) := of_decide_eq_true (by first | (with_reducible assumption) | assumption)
      obtain ⟨ad15, A15_2, c15_2, A15_3, c15_3, e15, hx15_0, hx15_1, hx15_2, hx15_3, hl15_2, hi15_2, hl15_3, hi15_3⟩ := at_T26 HR0.out x11_1 p15 q15
      cases e15
      replace hx15_0 := (HB.out.cell (World.block_lt_of_cell? w _ hx15_0)).trans hx15_0
      replace hx15_1 := (HB.out.cell (World.block_lt_of_cell? w _ hx15_1)).trans hx15_1
      replace hx15_2 := (HB.out.cell (World.block_lt_of_cell? w _ hx15_2)).trans hx15_2
      replace hx15_3 := (HB.out.cell (World.block_lt_of_cell? w _ hx15_3)).trans hx15_3
      have HR15_2 := Aside0.mk hi15_2
      have HC15_2 := Aside0.mk hl15_2
      clear hi15_2 hl15_2
      have HR15_3 := Aside0.mk hi15_3
      have HC15_3 := Aside0.mk hl15_3
      clear hi15_3 hl15_3
      replace p15 := eq_true p15
      replace q15 := eq_true q15
      go_wp2_with (first | ((with_reducible refine gate_dst (N := 6) rfl ?_); refine box_event ?hg (N := 6) ?hd (cs := #[.int .i64 0, .int .u32 0, .slice none 0 0, .slice none 0 0]) (t := 26) ?hr ?_; (case hd => rfl); (case hg => rfl); (case hr => first | (go_simp; done) | (go_simp; rfl)); intro gb16 hg w16 hbox hb; have BK16 := Aside0.mk (hbox); have GW16 := Aside0.mk ((by rw [hg]; exact (below_size (hbW HB)) : w.heap.size ≤ gb16)); have GE16 := Aside0.mk ((by rw [hg]; exact (below_size (hbW HB)) : w.heap.size ≤ gb16)); have NB1_16 := Aside0.mk ((by rw [hg]; exact Nat.ne_of_lt (blk_lt (bkW BK1)) : gb1 ≠ gb16)); have NB16_1 := Aside0.mk ((by rw [hg]; exact Nat.ne_of_gt (blk_lt (bkW BK1)) : gb16 ≠ gb1)); have NB2_16 := Aside0.mk ((by rw [hg]; exact Nat.ne_of_lt (blk_lt (bkW BK2)) : gb2 ≠ gb16)); have NB16_2 := Aside0.mk ((by rw [hg]; exact Nat.ne_of_gt (blk_lt (bkW BK2)) : gb16 ≠ gb2)); replace HO_2002 := Aside0.mk (Kd.R_below (rW HO_2002) hb); replace HO_2003 := Aside0.mk (Kd.R_below (rW HO_2003) hb); replace BK1 := bkB BK1 hb; replace BK2 := bkB BK2 hb; replace HB := hbS HB hb; clear hb hbox hg; have hnb17 := NB16_1.out; have hnc17 := NB1_16.out; have hnb18 := NB16_2.out; have hnc18 := NB2_16.out; obtain ⟨hcz19_0, hcz19_1, hcz19_2, hcz19_3, hfz19_0, hfz19_1, hfz19_2, hfz19_3⟩ := bc4 BK16) | ((with_reducible refine gate_store (t := 26) (p := 6) rfl ?_); refine store_event (t := 26) (p := 6) (v := ?vo_w20) (w1 := ((((w16.setCell ⟨gb16, 0, none⟩ (.int .i64 ((rd_T26 l0 x11_1).f0))).setCell ⟨gb16, 1, none⟩ (.int .u32 ((rd_T26 l0 x11_1).f1))).setCell ⟨gb16, 2, none⟩ (.slice A15_2 ((rd_T26 l0 x11_1).f2).length c15_2)).setCell ⟨gb16, 3, none⟩ (.slice A15_3 ((rd_T26 l0 x11_1).f3).length c15_3))) ?hg ?ho ?hn ?hr ?_; (case ho => rfl); (case hg => rfl); (case hn => rfl); (case hr => first | (go_simp; done) | (go_simp; rfl)); intro w20 hw; have n0_ : Aside0 (Kd.R (Kd.int .u32) 22 w20 w.heap.size (fun k_ => some k_ ≠ (u2003 : Value).ownBlock) u2002 x2002_1) := ⟨(by rw [hw]; exact (rW HO_2002))⟩; have n1_ : Aside0 (Kd.R (Kd.int .u32) 22 w20 w.heap.size (fun k_ => some k_ ≠ (u2002 : Value).ownBlock) u2003 x2003_1) := ⟨(by rw [hw]; exact (rW HO_2003))⟩; have n2_ : Aside0 (w20.heap[gb1]? = some (.cells #[.int .u32 x2000_1, .int .i64 x2001_1, u2002, u2003, .int .u32 x2004_1, .int .u32 x2005_1, .int .i64 x2006_1, .int .u32 x2007_1] 30 (0, 0))) := ⟨(by rw [hw]; exact (bkV BK1))⟩; have n3_ : Aside0 (w20.heap[gb2]? = some (.cells #[.int .u32 0, .int .i64 0, .slice none 0 0, .slice none 0 0, .int .u32 0, .int .u32 0, .int .i64 0, .int .u32 0] 30 (0, 0))) := ⟨(by rw [hw]; exact (bkV BK2))⟩; have n4_ : Aside0 (w20.heap[gb16]? = some (.cells #[.int .i64 ((rd_T26 l0 x11_1).f0), .int .u32 ((rd_T26 l0 x11_1).f1), .slice A15_2 ((rd_T26 l0 x11_1).f2).length c15_2, .slice A15_3 ((rd_T26 l0 x11_1).f3).length c15_3] 26 (0, 0))) := ⟨(by rw [hw]; exact (bp4 BK16))⟩; have n5_ : Aside0 (Below w.heap.size w w20) := ⟨(by rw [hw]; exact (hbW HB))⟩; clear hw; clear HO_2002; clear HO_2003; clear BK1; clear BK2; clear BK16; clear HB; have HO_2002 := n0_; have HO_2003 := n1_; have BK1 := n2_; have BK2 := n3_; have BK16 := n4_; have HB := n5_; clear n0_ n1_ n2_ n3_ n4_ n5_; obtain ⟨hcz21_0, hcz21_1, hcz21_2, hcz21_3, hfz21_0, hfz21_1, hfz21_2, hfz21_3⟩ := bc4 BK16; have hnb22 := NB1_2.out; have hnc22 := NB2_1.out; obtain ⟨hcz23_0, hcz23_1, hcz23_2, hcz23_3, hcz23_4, hcz23_5, hcz23_6, hcz23_7, hfz23_0, hfz23_1, hfz23_2, hfz23_3, hfz23_4, hfz23_5, hfz23_6, hfz23_7⟩ := bc8 BK1; obtain ⟨Ao24, co24, eo24⟩ := Kd.R_slice HO_2002.out; subst eo24; obtain ⟨Ao25, co25, eo25⟩ := Kd.R_slice HO_2003.out; subst eo25) | ((with_reducible refine gate_callee (f := 13) rfl ?_); refine goesL_ (some 17) rfl rfl Try.func13 (by kernel_rfl) rfl #[.agg #[.int .i64 ((rd_T26 l0 x11_1).f0), .int .u32 ((rd_T26 l0 x11_1).f1), .slice A15_2 ((rd_T26 l0 x11_1).f2).length c15_2, .slice A15_3 ((rd_T26 l0 x11_1).f3).length c15_3], .agg #[.int .u32 x2000_1, .int .i64 x2001_1, .slice Ao24 x2002_1.length co24, .slice Ao25 x2003_1.length co25, .int .u32 x2004_1, .int .u32 x2005_1, .int .i64 x2006_1, .int .u32 x2007_1]] rfl (by (try simp only [List.map_toArray, List.map_cons, List.map_nil]); first | done | rfl | (simp only [List.length_drop, List.length_take]; rfl)) ?_; (with_reducible refine (q9z.calls k1 ((rd_T26 l0 x11_1).f0) ((rd_T26 l0 x11_1).f1) (fun k_ => k_ < w.heap.size) _ _ ((rd_T26 l0 x11_1).f2) _ _ ((rd_T26 l0 x11_1).f3) x2000_1 x2001_1 _ _ x2002_1 _ _ x2003_1 x2004_1 x2005_1 x2006_1 x2007_1 t17 t18 t19 t22 t25 t26 t27 t28 _ ?side1 ?side2 ?side3 ?side4 ?side5 ?side6 ?side7 A15.out).mono ?_); (case side1 => exact Kd.V_mk HC15_2.out (Kd.F_below (Kd.C_F (Kd.heap_int .u32) HR15_2.out) (hbW HB))); (case side2 => repeat (first | exact (Kd.C_below HR15_3.out HB.out) | (with_reducible refine Kd.C_alloc ?_ _) | (with_reducible refine Kd.C_drewN ?_ _) | (with_reducible refine Kd.C_drew ?_))); (case side3 => exact HC15_3.out); (case side4 => repeat (first | exact (Kd.R_reads' HO_2002.out).2.2 | (with_reducible refine Kd.C_alloc ?_ _) | (with_reducible refine Kd.C_drewN ?_ _) | (with_reducible refine Kd.C_drew ?_))); (case side5 => exact (Kd.R_reads' HO_2002.out).2.1); (case side6 => repeat (first | exact (Kd.R_reads' HO_2003.out).2.2 | (with_reducible refine Kd.C_alloc ?_ _) | (with_reducible refine Kd.C_drewN ?_ _) | (with_reducible refine Kd.C_drew ?_))); (case side7 => exact (Kd.R_reads' HO_2003.out).2.1); rintro e w26 ⟨v20, v23, rfl, ho0, ho1, hb⟩; refine ⟨_, rfl, ?_⟩; have HO21 := Aside0.mk (Kd.R_lower (Kd.R_new' (Kd.R_new' (Kd.R_mono (ok' := fun k_ => some k_ ≠ (v23 : Value).ownBlock) ho0 (fun _ hk_ => hk_.2)) (Kd.R_lt (rW HO_2002))) (Kd.R_lt (rW HO_2003))) (below_size (hbW HB))); have HO24 := Aside0.mk (Kd.R_lower (Kd.R_new' (Kd.R_new' (Kd.R_mono (ok' := fun k_ => some k_ ≠ (v20 : Value).ownBlock) ho1 (fun _ hk_ => hk_.2)) (Kd.R_lt (rW HO_2002))) (Kd.R_lt (rW HO_2003))) (below_size (hbW HB))); replace HO_2002 := Aside0.mk (Kd.R_mono (Kd.R_told (Kd.R_told (Kd.R_old (rW HO_2002) hb) (Kd.R_base ho0)) (Kd.R_base ho1)) (fun _ h_ => h_.1)); replace HO_2003 := Aside0.mk (Kd.R_mono (Kd.R_told (Kd.R_told (Kd.R_old (rW HO_2003) hb) (Kd.R_base ho0)) (Kd.R_base ho1)) (fun _ h_ => h_.1)); replace BK1 := bkB BK1 hb; replace BK2 := bkB BK2 hb; replace BK16 := bkB BK16 hb; replace HB := hbS HB hb; (try clear hb); (try clear ho0); (try clear ho1); obtain ⟨hcz27_0, hcz27_1, hcz27_2, hcz27_3, hcz27_4, hcz27_5, hcz27_6, hcz27_7, hfz27_0, hfz27_1, hfz27_2, hfz27_3, hfz27_4, hfz27_5, hfz27_6, hfz27_7⟩ := bc8 BK1; obtain ⟨Ao28, co28, eo28⟩ := Kd.R_slice HO21.out; subst eo28; obtain ⟨Ao29, co29, eo29⟩ := Kd.R_slice HO24.out; subst eo29))
      go_roundg k1
      case measure => have := HK1.out; omega
      case rel => exact ⟨(wrap64 (x11_1 + 1)), (t17), (t18), (t19), (t22), (t25), (t26), (t27), (t28), (.slice Ao28 t19.length co28), (.slice Ao29 t22.length co29), (by first | rfl | (simp; done) | (simp [*]; done)), H', ⟨by have := HK1.out; omega⟩, ⟨by (with_reducible repeat (first | apply Kd.R_alloc | apply Kd.R_drewN | apply Kd.R_drew)); exact Kd.R_mono (Kd.R_far (p := ⟨gb1, 7, none⟩) (Kd.R_far (p := ⟨gb1, 6, none⟩) (Kd.R_far (p := ⟨gb1, 5, none⟩) (Kd.R_far (p := ⟨gb1, 4, none⟩) (Kd.R_far (p := ⟨gb1, 3, none⟩) (Kd.R_far (p := ⟨gb1, 2, none⟩) (Kd.R_far (p := ⟨gb1, 1, none⟩) (Kd.R_far (p := ⟨gb1, 0, none⟩) (Kd.R_types HO21.out BK1.out (by decide)) (fun _ hk => hk.2) (.int .u32 t17)) (fun _ hk => hk.2) (.int .i64 t18)) (fun _ hk => hk.2) (.slice Ao28 t19.length co28)) (fun _ hk => hk.2) (.slice Ao29 t22.length co29)) (fun _ hk => hk.2) (.int .u32 t25)) (fun _ hk => hk.2) (.int .u32 t26)) (fun _ hk => hk.2) (.int .i64 t27)) (fun _ hk => hk.2) (.int .u32 t28)) (fun _ hk => hk.1.1.1)⟩, ⟨by (with_reducible repeat (first | apply Kd.R_alloc | apply Kd.R_drewN | apply Kd.R_drew)); exact Kd.R_mono (Kd.R_far (p := ⟨gb1, 7, none⟩) (Kd.R_far (p := ⟨gb1, 6, none⟩) (Kd.R_far (p := ⟨gb1, 5, none⟩) (Kd.R_far (p := ⟨gb1, 4, none⟩) (Kd.R_far (p := ⟨gb1, 3, none⟩) (Kd.R_far (p := ⟨gb1, 2, none⟩) (Kd.R_far (p := ⟨gb1, 1, none⟩) (Kd.R_far (p := ⟨gb1, 0, none⟩) (Kd.R_types HO24.out BK1.out (by decide)) (fun _ hk => hk.2) (.int .u32 t17)) (fun _ hk => hk.2) (.int .i64 t18)) (fun _ hk => hk.2) (.slice Ao28 t19.length co28)) (fun _ hk => hk.2) (.slice Ao29 t22.length co29)) (fun _ hk => hk.2) (.int .u32 t25)) (fun _ hk => hk.2) (.int .u32 t26)) (fun _ hk => hk.2) (.int .i64 t27)) (fun _ hk => hk.2) (.int .u32 t28)) (fun _ hk => hk.1.1.1)⟩, ⟨by (with_reducible repeat (first | refine blk_drewN ?_ _ | refine blk_drew ?_ | refine blk_alloc ?_ _)); refine blk_put (cs := #[.int .u32 t17, .int .i64 t18, .slice Ao28 t19.length co28, .slice Ao29 t22.length co29, .int .u32 t25, .int .u32 t26, .int .i64 t27, .int .u32 x2007_1]) ?_ 7 _ rfl; (with_reducible repeat (first | refine blk_drewN ?_ _ | refine blk_drew ?_ | refine blk_alloc ?_ _)); refine blk_put (cs := #[.int .u32 t17, .int .i64 t18, .slice Ao28 t19.length co28, .slice Ao29 t22.length co29, .int .u32 t25, .int .u32 t26, .int .i64 x2006_1, .int .u32 x2007_1]) ?_ 6 _ rfl; (with_reducible repeat (first | refine blk_drewN ?_ _ | refine blk_drew ?_ | refine blk_alloc ?_ _)); refine blk_put (cs := #[.int .u32 t17, .int .i64 t18, .slice Ao28 t19.length co28, .slice Ao29 t22.length co29, .int .u32 t25, .int .u32 x2005_1, .int .i64 x2006_1, .int .u32 x2007_1]) ?_ 5 _ rfl; (with_reducible repeat (first | refine blk_drewN ?_ _ | refine blk_drew ?_ | refine blk_alloc ?_ _)); refine blk_put (cs := #[.int .u32 t17, .int .i64 t18, .slice Ao28 t19.length co28, .slice Ao29 t22.length co29, .int .u32 x2004_1, .int .u32 x2005_1, .int .i64 x2006_1, .int .u32 x2007_1]) ?_ 4 _ rfl; (with_reducible repeat (first | refine blk_drewN ?_ _ | refine blk_drew ?_ | refine blk_alloc ?_ _)); refine blk_put (cs := #[.int .u32 t17, .int .i64 t18, .slice Ao28 t19.length co28, .slice Ao25 x2003_1.length co25, .int .u32 x2004_1, .int .u32 x2005_1, .int .i64 x2006_1, .int .u32 x2007_1]) ?_ 3 _ rfl; (with_reducible repeat (first | refine blk_drewN ?_ _ | refine blk_drew ?_ | refine blk_alloc ?_ _)); refine blk_put (cs := #[.int .u32 t17, .int .i64 t18, .slice Ao24 x2002_1.length co24, .slice Ao25 x2003_1.length co25, .int .u32 x2004_1, .int .u32 x2005_1, .int .i64 x2006_1, .int .u32 x2007_1]) ?_ 2 _ rfl; (with_reducible repeat (first | refine blk_drewN ?_ _ | refine blk_drew ?_ | refine blk_alloc ?_ _)); refine blk_put (cs := #[.int .u32 t17, .int .i64 x2001_1, .slice Ao24 x2002_1.length co24, .slice Ao25 x2003_1.length co25, .int .u32 x2004_1, .int .u32 x2005_1, .int .i64 x2006_1, .int .u32 x2007_1]) ?_ 1 _ rfl; (with_reducible repeat (first | refine blk_drewN ?_ _ | refine blk_drew ?_ | refine blk_alloc ?_ _)); refine blk_put (cs := #[.int .u32 x2000_1, .int .i64 x2001_1, .slice Ao24 x2002_1.length co24, .slice Ao25 x2003_1.length co25, .int .u32 x2004_1, .int .u32 x2005_1, .int .i64 x2006_1, .int .u32 x2007_1]) ?_ 0 _ rfl; (with_reducible repeat (first | refine blk_drewN ?_ _ | refine blk_drew ?_ | refine blk_alloc ?_ _)); exact BK1.out⟩, ⟨by (with_reducible repeat (first | refine blk_drewN ?_ _ | refine blk_drew ?_ | refine blk_alloc ?_ _)); refine blk_far ?_ NB2_1.out _; (with_reducible repeat (first | refine blk_drewN ?_ _ | refine blk_drew ?_ | refine blk_alloc ?_ _)); refine blk_far ?_ NB2_1.out _; (with_reducible repeat (first | refine blk_drewN ?_ _ | refine blk_drew ?_ | refine blk_alloc ?_ _)); refine blk_far ?_ NB2_1.out _; (with_reducible repeat (first | refine blk_drewN ?_ _ | refine blk_drew ?_ | refine blk_alloc ?_ _)); refine blk_far ?_ NB2_1.out _; (with_reducible repeat (first | refine blk_drewN ?_ _ | refine blk_drew ?_ | refine blk_alloc ?_ _)); refine blk_far ?_ NB2_1.out _; (with_reducible repeat (first | refine blk_drewN ?_ _ | refine blk_drew ?_ | refine blk_alloc ?_ _)); refine blk_far ?_ NB2_1.out _; (with_reducible repeat (first | refine blk_drewN ?_ _ | refine blk_drew ?_ | refine blk_alloc ?_ _)); refine blk_far ?_ NB2_1.out _; (with_reducible repeat (first | refine blk_drewN ?_ _ | refine blk_drew ?_ | refine blk_alloc ?_ _)); refine blk_far ?_ NB2_1.out _; (with_reducible repeat (first | refine blk_drewN ?_ _ | refine blk_drew ?_ | refine blk_alloc ?_ _)); exact BK2.out⟩, ⟨hbW HB⟩⟩
     ·
      rw [if_neg c14] at H
      exact absurd H (by simp)
    ·
     rw [if_neg c13] at H
     exact absurd H (by simp)
   ·
    rw [if_neg c12] at H
    have c12b0 : decide (x11_1 < (l0.length : Int)) = false := decide_eq_false c12
    clear c12
    simp only [Option.some.injEq, Prod.mk.injEq] at H
    obtain ⟨rfl, rfl, rfl, rfl, rfl, rfl, rfl, rfl⟩ := H
    have hnb30 := NB1_2.out
    have hnc30 := NB2_1.out
    obtain ⟨hcz31_0, hcz31_1, hcz31_2, hcz31_3, hcz31_4, hcz31_5, hcz31_6, hcz31_7, hfz31_0, hfz31_1, hfz31_2, hfz31_3, hfz31_4, hfz31_5, hfz31_6, hfz31_7⟩ := bc8 BK1
    obtain ⟨hcz32_0, hcz32_1, hcz32_2, hcz32_3, hcz32_4, hcz32_5, hcz32_6, hcz32_7, hfz32_0, hfz32_1, hfz32_2, hfz32_3, hfz32_4, hfz32_5, hfz32_6, hfz32_7⟩ := bc8 BK2
    obtain ⟨Ao33, co33, eo33⟩ := Kd.R_slice HO_2002.out
    subst eo33
    obtain ⟨Ao34, co34, eo34⟩ := Kd.R_slice HO_2003.out
    subst eo34
    go_wp2
    refine bodyPost_ret (results_cell_row rfl _ _ gb2 30 #[.int .u32 x2000_1, .int .i64 x2001_1, .slice Ao33 x2002_1.length co33, .slice Ao34 x2003_1.length co34, .int .u32 x2004_1, .int .u32 x2005_1, .int .i64 x2006_1, .int .u32 x2007_1] (0, 0) _ rfl (bp8 BK2) Try.underlying30 rfl (by kernel_rfl)) rfl ?_
    exact ⟨_, _, by first | rfl | (simp [errW_none, errW_some] <;> rfl) | (simp [*, errW_none, errW_some] <;> rfl), by (with_reducible repeat (first | apply Kd.R_alloc | apply Kd.R_drewN | apply Kd.R_drew)); exact Kd.R_mono (Kd.R_far (p := ⟨gb2, 7, none⟩) (Kd.R_far (p := ⟨gb2, 6, none⟩) (Kd.R_far (p := ⟨gb2, 5, none⟩) (Kd.R_far (p := ⟨gb2, 4, none⟩) (Kd.R_far (p := ⟨gb2, 3, none⟩) (Kd.R_far (p := ⟨gb2, 2, none⟩) (Kd.R_far (p := ⟨gb2, 1, none⟩) (Kd.R_far (p := ⟨gb2, 0, none⟩) (Kd.R_types HO_2002.out BK2.out (by decide)) (fun _ hk => hk.2) (.int .u32 x2000_1)) (fun _ hk => hk.2) (.int .i64 x2001_1)) (fun _ hk => hk.2) (.slice Ao33 x2002_1.length co33)) (fun _ hk => hk.2) (.slice Ao34 x2003_1.length co34)) (fun _ hk => hk.2) (.int .u32 x2004_1)) (fun _ hk => hk.2) (.int .u32 x2005_1)) (fun _ hk => hk.2) (.int .i64 x2006_1)) (fun _ hk => hk.2) (.int .u32 x2007_1)) (fun _ hk => hk.1), by (with_reducible repeat (first | apply Kd.R_alloc | apply Kd.R_drewN | apply Kd.R_drew)); exact Kd.R_mono (Kd.R_far (p := ⟨gb2, 7, none⟩) (Kd.R_far (p := ⟨gb2, 6, none⟩) (Kd.R_far (p := ⟨gb2, 5, none⟩) (Kd.R_far (p := ⟨gb2, 4, none⟩) (Kd.R_far (p := ⟨gb2, 3, none⟩) (Kd.R_far (p := ⟨gb2, 2, none⟩) (Kd.R_far (p := ⟨gb2, 1, none⟩) (Kd.R_far (p := ⟨gb2, 0, none⟩) (Kd.R_types HO_2003.out BK2.out (by decide)) (fun _ hk => hk.2) (.int .u32 x2000_1)) (fun _ hk => hk.2) (.int .i64 x2001_1)) (fun _ hk => hk.2) (.slice Ao33 x2002_1.length co33)) (fun _ hk => hk.2) (.slice Ao34 x2003_1.length co34)) (fun _ hk => hk.2) (.int .u32 x2004_1)) (fun _ hk => hk.2) (.int .u32 x2005_1)) (fun _ hk => hk.2) (.int .i64 x2006_1)) (fun _ hk => hk.2) (.int .u32 x2007_1)) (fun _ hk => hk.1), hbW HB⟩

end Go.Proofs.Ytgelpccjdndfoaa.P

namespace Go.Proofs.Ytgelpccjdndfoaa.P
open Go.RowKit Go.Proofs.YtgelpccjdndfoaaW.PrintWords Go.Proofs.YtgelpccjdndfoaaW.PrintLast Go.Proofs.YtgelpccjdndfoaaW.PrintMore
attribute [local go_sem] max2_int min2_int max_two min_two max_three min_three max_four min_four
set_option linter.unusedVariables false
set_option linter.unusedSimpArgs false

/-! ### dragomanref11_CommsRight: function 34 -/
def q20z.l0 : Nat → List (S53) → Int → Int → Option (Bool)
 | 0, _, _, _ => none
 | k + 1, x8, x9, x10 => if x10 < x9 then (if 0 ≤ x10 then (if x10 < (x8.length : Int) then (if (((rd_T53 x8 x10).f1).length : Int) > 64 then (some false) else (q20z.l0 k x8 x9 (wrap64 (x10 + 1)))) else (none)) else (none)) else (some true)
def q20z.f (k : Nat) (l0 : List (S53)) : Option (Bool) := if (l0.length : Int) > 64 then (some false) else (q20z.l0 k l0 (l0.length : Int) 0)
theorem q20z.mono_l : ∀ k, (∀ y0 y1 y2, LeO (q20z.l0 k y0 y1 y2) (q20z.l0 (k + 1) y0 y1 y2))
 | 0 => fun _ _ _ r h => by simp [q20z.l0] at h
 | k + 1 => by
  have ih0 := q20z.mono_l k
  ·
   intro y0 y1 y2
   unfold q20z.l0
   repeat' first
   | (with_reducible exact ih0 _ _ _)
   | (with_reducible exact LeO.refl _)
   | (with_reducible exact LeO.none _)
   | (with_reducible refine LeO.ite ?_ ?_)
   | (with_reducible refine LeO.bind ?_ (fun _ => ?_))
   | exact ih0 _ _ _
   | exact LeO.none _
   | refine LeO.ite ?_ ?_
   | refine LeO.bind ?_ (fun _ => ?_)
theorem q20z.mono : ∀ a0 k, LeO (q20z.f k a0) (q20z.f (k + 1) a0) := by
 intro a0 k
 have ih0 := q20z.mono_l k
 unfold q20z.f
 repeat' first
   | (with_reducible exact ih0 _ _ _)
   | (with_reducible exact LeO.refl _)
   | (with_reducible exact LeO.none _)
   | (with_reducible refine LeO.ite ?_ ?_)
   | (with_reducible refine LeO.bind ?_ (fun _ => ?_))
   | exact ih0 _ _ _
   | exact LeO.none _
   | refine LeO.ite ?_ ?_
   | refine LeO.bind ?_ (fun _ => ?_)
set_option maxHeartbeats 8000000 in
set_option maxRecDepth 100000 in
theorem q20z.calls (k : Nat) (A0 : Option Addr) (c0 : Nat) (l0 : List (S53)) (r : Bool) (w : World) (hr0 : Kd.C k53 w A0 l0.length l0) (hc0 : l0.length ≤ c0) (h : q20z.f k l0 = some r) :
  Calls Try.prog 34 #[.slice A0 l0.length c0] w fun e w' => e = .returned (.bool r) ∧ Below w.heap.size w w' := by
 have hu53 := Try.underlying53
 have HR0 := Aside0.mk hr0
 have HC0 := Aside0.mk hc0
 clear hr0 hc0
 have HB := Aside0.mk (Below.refl w.heap.size w)
 have H : (if (l0.length : Int) > 64 then (some false) else (q20z.l0 k l0 (l0.length : Int) 0)) = some r := h
 clear h
 by_cases c2 : (l0.length : Int) > 64
 ·
  rw [if_pos c2] at H
  have c2b0 : decide (64 < (l0.length : Int)) = true := decide_eq_true c2
  have c2b1 : decide (64 < l0.length) = true := decide_eq_true (by omega)
  clear c2
  obtain rfl := Option.some.inj H
  go_enter Try.func34, Try.ntmps34
  go_wp2
  go_ret
  exact ⟨by first | rfl | (simp [errW_none, errW_some] <;> rfl) | (simp [*, errW_none, errW_some] <;> rfl), hbW HB⟩
 ·
  rw [if_neg c2] at H
  have c2b0 : decide (64 < (l0.length : Int)) = false := decide_eq_false c2
  have c2b1 : decide (64 < l0.length) = false := decide_eq_false (by omega)
  clear c2
  have H' := Aside0.mk H
  clear H
  go_enter Try.func34, Try.ntmps34
  go_wp2
  go_loopg [10] k (fun kq v10 w' => ∃ (x10_1 : Int), v10 = .int .i64 x10_1 ∧ Aside0 (q20z.l0 kq l0 (l0.length : Int) x10_1 = some r) ∧ Aside0 (kq ≤ k) ∧ Aside0 (Below w.heap.size w w'))
  case atStart => exact ⟨(0), (by first | rfl | (simp; done) | (simp [*]; done)), H', ⟨Nat.le_refl _⟩, ⟨hbW HB⟩⟩
  case round =>
   clear H'
   try clear c2
   try clear c2b0
   try clear c2b1
   try clear p2
   obtain ⟨x10_1, rfl, HA, HK1, HB⟩ := hrel
   cases gk with
   | zero => exact absurd HA.out (by simp [q20z.l0])
   | succ k1 =>
    have H := HA.out
    clear HA
    simp only [q20z.l0] at H
    by_cases c3 : x10_1 < (l0.length : Int)
    ·
     rw [if_pos c3] at H
     have c3b0 : decide (x10_1 < (l0.length : Int)) = true := decide_eq_true c3
     clear c3
     by_cases c4 : 0 ≤ x10_1
     ·
      rw [if_pos c4] at H
      have c4b0 : decide (0 ≤ x10_1) = true := decide_eq_true c4
      clear c4
      by_cases c5 : x10_1 < (l0.length : Int)
      ·
       rw [if_pos c5] at H
       have c5b0 : decide (x10_1 < (l0.length : Int)) = true := decide_eq_true c5
       clear c5
       by_cases c6 : (((rd_T53 l0 x10_1).f1).length : Int) > 64
       ·
        rw [if_pos c6] at H
        have c6b0 : decide (64 < (((rd_T53 l0 x10_1).f1).length : Int)) = true := decide_eq_true c6
        have c6b1 : decide (64 < ((rd_T53 l0 x10_1).f1).length) = true := decide_eq_true (by omega)
        clear c6
        obtain rfl := Option.some.inj H
        have p1 : 0 ≤ (x10_1 : Int) := of_decide_eq_true (by first | (with_reducible assumption) | assumption)
        have q1 : x10_1 < (l0.length : Int) := of_decide_eq_true (by first | (with_reducible assumption) | assumption)
        obtain ⟨ad1, A1_1, c1_1, e1, hx1_0, hx1_1, hl1_1, hi1_1⟩ := at_T53 HR0.out x10_1 p1 q1
        cases e1
        replace hx1_0 := (HB.out.cell (World.block_lt_of_cell? w _ hx1_0)).trans hx1_0
        replace hx1_1 := (HB.out.cell (World.block_lt_of_cell? w _ hx1_1)).trans hx1_1
        have HR1_1 := Aside0.mk hi1_1
        have HC1_1 := Aside0.mk hl1_1
        clear hi1_1 hl1_1
        replace p1 := eq_true p1
        replace q1 := eq_true q1
        go_wp2_with (first | ((with_reducible refine gate_dst (N := 4) rfl ?_); refine box_event ?hg (N := 4) ?hd (cs := #[.bool false, .slice none 0 0]) (t := 53) ?hr ?_; (case hd => rfl); (case hg => rfl); (case hr => first | (go_simp; done) | (go_simp; rfl)); intro gb2 hg w7 hbox hb; have BK2 := Aside0.mk (hbox); have GW2 := Aside0.mk ((by rw [hg]; exact (below_size (hbW HB)) : w.heap.size ≤ gb2)); have GE2 := Aside0.mk ((by rw [hg]; exact (below_size (hbW HB)) : w.heap.size ≤ gb2)); replace HB := hbS HB hb; clear hb hbox hg; obtain ⟨hcz8_0, hcz8_1, hfz8_0, hfz8_1⟩ := bc2 BK2))
        go_ret
        exact ⟨by first | rfl | (simp [errW_none, errW_some] <;> rfl) | (simp [*, errW_none, errW_some] <;> rfl), hbW HB⟩
       ·
        rw [if_neg c6] at H
        have c6b0 : decide (64 < (((rd_T53 l0 x10_1).f1).length : Int)) = false := decide_eq_false c6
        have c6b1 : decide (64 < ((rd_T53 l0 x10_1).f1).length) = false := decide_eq_false (by omega)
        clear c6
        have H' := Aside0.mk H
        clear H
        have p1 : 0 ≤ (x10_1 : Int) := of_decide_eq_true (by first | (with_reducible assumption) | assumption)
        have q1 : x10_1 < (l0.length : Int) := of_decide_eq_true (by first | (with_reducible assumption) | assumption)
        obtain ⟨ad1, A1_1, c1_1, e1, hx1_0, hx1_1, hl1_1, hi1_1⟩ := at_T53 HR0.out x10_1 p1 q1
        cases e1
        replace hx1_0 := (HB.out.cell (World.block_lt_of_cell? w _ hx1_0)).trans hx1_0
        replace hx1_1 := (HB.out.cell (World.block_lt_of_cell? w _ hx1_1)).trans hx1_1
        have HR1_1 := Aside0.mk hi1_1
        have HC1_1 := Aside0.mk hl1_1
        clear hi1_1 hl1_1
        replace p1 := eq_true p1
        replace q1 := eq_true q1
        go_wp2_with (first | ((with_reducible refine gate_dst (N := 4) rfl ?_); refine box_event ?hg (N := 4) ?hd (cs := #[.bool false, .slice none 0 0]) (t := 53) ?hr ?_; (case hd => rfl); (case hg => rfl); (case hr => first | (go_simp; done) | (go_simp; rfl)); intro gb2 hg w9 hbox hb; have BK2 := Aside0.mk (hbox); have GW2 := Aside0.mk ((by rw [hg]; exact (below_size (hbW HB)) : w.heap.size ≤ gb2)); have GE2 := Aside0.mk ((by rw [hg]; exact (below_size (hbW HB)) : w.heap.size ≤ gb2)); replace HB := hbS HB hb; clear hb hbox hg; obtain ⟨hcz10_0, hcz10_1, hfz10_0, hfz10_1⟩ := bc2 BK2))
        go_roundg k1
        case measure => have := HK1.out; omega
        case rel => exact ⟨(wrap64 (x10_1 + 1)), (by first | rfl | (simp; done) | (simp [*]; done)), H', ⟨by have := HK1.out; omega⟩, ⟨hbW HB⟩⟩
      ·
       rw [if_neg c5] at H
       exact absurd H (by simp)
     ·
      rw [if_neg c4] at H
      exact absurd H (by simp)
    ·
     rw [if_neg c3] at H
     have c3b0 : decide (x10_1 < (l0.length : Int)) = false := decide_eq_false c3
     clear c3
     obtain rfl := Option.some.inj H
     go_wp2
     go_ret
     exact ⟨by first | rfl | (simp [errW_none, errW_some] <;> rfl) | (simp [*, errW_none, errW_some] <;> rfl), hbW HB⟩

end Go.Proofs.Ytgelpccjdndfoaa.P
