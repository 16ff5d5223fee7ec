/- Part of the proof of the law ActOrder: the functions that it reaches, by contract. -/
import Derived.Deep.Slices
import Derived.Test.YtgelpccjdndfoaaCActOrder0
import Derived.Test.YtgelpccjdndfoaaCActOrder1
namespace Go.Proofs.Ytgelpccjdndfoaa.P
open Go.RowKit Go.Proofs.YtgelpccjdndfoaaW.PrintWords Go.Proofs.YtgelpccjdndfoaaW.PrintLast Go.Proofs.YtgelpccjdndfoaaW.PrintMore
attribute [local go_sem] max2_int min2_int max_two min_two max_three min_three max_four min_four
set_option linter.unusedVariables false
set_option linter.unusedSimpArgs false

/-! ### dragomanlaw12_alive: function 8 -/
def q14z.f (k : Nat)  : Option (Bool) := (q11z.f k 5 0 (([1, 2] : List Int)) ([] : List (S53)) 0 0 (([3] : List Int)) ([] : List Int) 0 0 0 0).bind fun bt7 => ((q11z.f k 6 0 (([5, 3] : List Int)) ([] : List (S53)) 0 0 ([] : List Int) (([4] : List Int)) 0 0 0 0).bind fun bt26 => ((q11z.f k 8 0 ([] : List Int) (([(⟨false, (([(⟨4259840000, 4259905535⟩ : S50)] : List (S50)))⟩ : S53)] : List (S53))) 0 0 ([] : List Int) (([458759, 4259840001] : List Int)) 0 0 0 0).bind fun bt48 => ((q13z.f k bt7.2.2.1 (([1, 2, 3] : List Int))).bind fun t64 => (if t64 = true then ((q13z.f k bt26.2.2.2.1 (([3, 4, 5] : List Int))).bind fun t68 => (if t68 = true then ((q13z.f k bt48.2.2.2.1 (([458759] : List Int))).bind fun t72 => (some t72)) else (some false))) else (some false)))))
theorem q14z.mono : ∀ k, LeO (q14z.f k ) (q14z.f (k + 1) ) := by
 intro  k
 unfold q14z.f
 repeat' first
   | (with_reducible exact q11z.mono _ _ _ _ _ _ _ _ _ _ _ _ _)
   | (with_reducible exact q13z.mono _ _ _)
   | (with_reducible exact LeO.refl _)
   | (with_reducible exact LeO.none _)
   | (with_reducible refine LeO.ite ?_ ?_)
   | (with_reducible refine LeO.bind ?_ (fun _ => ?_))
   | exact q11z.mono _ _ _ _ _ _ _ _ _ _ _ _ _
   | exact q13z.mono _ _ _
   | exact LeO.none _
   | refine LeO.ite ?_ ?_
   | refine LeO.bind ?_ (fun _ => ?_)
set_option maxHeartbeats 8000000 in
set_option maxRecDepth 100000 in
theorem q14z.calls (k : Nat)  (r : Bool) (w : World) (h : q14z.f k  = some r) :
  Calls Try.prog 8 #[] w fun e w' => e = .returned (.bool r) ∧ Below w.heap.size w w' := by
 have hu26 := Try.underlying26
 have hu30 := Try.underlying30
 have hu50 := Try.underlying50
 have hu53 := Try.underlying53
 have HB := Aside0.mk (Below.refl w.heap.size w)
 have H : ((q11z.f k 5 0 (([1, 2] : List Int)) ([] : List (S53)) 0 0 (([3] : List Int)) ([] : List Int) 0 0 0 0).bind fun bt7 => ((q11z.f k 6 0 (([5, 3] : List Int)) ([] : List (S53)) 0 0 ([] : List Int) (([4] : List Int)) 0 0 0 0).bind fun bt26 => ((q11z.f k 8 0 ([] : List Int) (([(⟨false, (([(⟨4259840000, 4259905535⟩ : S50)] : List (S50)))⟩ : S53)] : List (S53))) 0 0 ([] : List Int) (([458759, 4259840001] : List Int)) 0 0 0 0).bind fun bt48 => ((q13z.f k bt7.2.2.1 (([1, 2, 3] : List Int))).bind fun t64 => (if t64 = true then ((q13z.f k bt26.2.2.2.1 (([3, 4, 5] : List Int))).bind fun t68 => (if t68 = true then ((q13z.f k bt48.2.2.2.1 (([458759] : List Int))).bind fun t72 => (some t72)) else (some false))) else (some false)))))) = some r := h
 clear h
 obtain ⟨y1, hy1⟩ : ∃ y_ : List Int, y_ = (([1, 2] : List Int)) := ⟨_, rfl⟩
 replace H : ((q11z.f k 5 0 y1 ([] : List (S53)) 0 0 (([3] : List Int)) ([] : List Int) 0 0 0 0).bind fun bt7 => ((q11z.f k 6 0 (([5, 3] : List Int)) ([] : List (S53)) 0 0 ([] : List Int) (([4] : List Int)) 0 0 0 0).bind fun bt26 => ((q11z.f k 8 0 ([] : List Int) (([(⟨false, (([(⟨4259840000, 4259905535⟩ : S50)] : List (S50)))⟩ : S53)] : List (S53))) 0 0 ([] : List Int) (([458759, 4259840001] : List Int)) 0 0 0 0).bind fun bt48 => ((q13z.f k bt7.2.2.1 (([1, 2, 3] : List Int))).bind fun t64 => (if t64 = true then ((q13z.f k bt26.2.2.2.1 (([3, 4, 5] : List Int))).bind fun t68 => (if t68 = true then ((q13z.f k bt48.2.2.2.1 (([458759] : List Int))).bind fun t72 => (some t72)) else (some false))) else (some false)))))) = some r := by first | (rw [hy1]; with_reducible exact H) | (have H2_ := (Option.bind_some _ _).symm.trans H; rw [hy1]; with_reducible exact H2_) | (have H2_ := (Option.bind_some _ _).symm.trans H; with_reducible exact H2_) | with_reducible exact H | (rw [hy1]; exact H) | exact H
 have Ny1 := Aside0.mk hy1
 clear hy1
 obtain ⟨y4, hy4⟩ : ∃ y_ : List Int, y_ = (([3] : List Int)) := ⟨_, rfl⟩
 replace H : ((q11z.f k 5 0 y1 ([] : List (S53)) 0 0 y4 ([] : List Int) 0 0 0 0).bind fun bt7 => ((q11z.f k 6 0 (([5, 3] : List Int)) ([] : List (S53)) 0 0 ([] : List Int) (([4] : List Int)) 0 0 0 0).bind fun bt26 => ((q11z.f k 8 0 ([] : List Int) (([(⟨false, (([(⟨4259840000, 4259905535⟩ : S50)] : List (S50)))⟩ : S53)] : List (S53))) 0 0 ([] : List Int) (([458759, 4259840001] : List Int)) 0 0 0 0).bind fun bt48 => ((q13z.f k bt7.2.2.1 (([1, 2, 3] : List Int))).bind fun t64 => (if t64 = true then ((q13z.f k bt26.2.2.2.1 (([3, 4, 5] : List Int))).bind fun t68 => (if t68 = true then ((q13z.f k bt48.2.2.2.1 (([458759] : List Int))).bind fun t72 => (some t72)) else (some false))) else (some false)))))) = some r := by first | (rw [hy4]; with_reducible exact H) | (have H2_ := (Option.bind_some _ _).symm.trans H; rw [hy4]; with_reducible exact H2_) | (have H2_ := (Option.bind_some _ _).symm.trans H; with_reducible exact H2_) | with_reducible exact H | (rw [hy4]; exact H) | exact H
 have Ny4 := Aside0.mk hy4
 clear hy4
 replace H := Option.bind_eq_some_iff.mp H
 obtain ⟨⟨t7, t8, t9, t12, t15, t16, t17, t18⟩, A10, H⟩ := H
 replace H : ((q11z.f k 6 0 (([5, 3] : List Int)) ([] : List (S53)) 0 0 ([] : List Int) (([4] : List Int)) 0 0 0 0).bind fun bt26 => ((q11z.f k 8 0 ([] : List Int) (([(⟨false, (([(⟨4259840000, 4259905535⟩ : S50)] : List (S50)))⟩ : S53)] : List (S53))) 0 0 ([] : List Int) (([458759, 4259840001] : List Int)) 0 0 0 0).bind fun bt48 => ((q13z.f k t9 (([1, 2, 3] : List Int))).bind fun t64 => (if t64 = true then ((q13z.f k bt26.2.2.2.1 (([3, 4, 5] : List Int))).bind fun t68 => (if t68 = true then ((q13z.f k bt48.2.2.2.1 (([458759] : List Int))).bind fun t72 => (some t72)) else (some false))) else (some false))))) = some r := H
 have A1 := Aside0.mk A10
 clear A10
 obtain ⟨y20, hy20⟩ : ∃ y_ : List Int, y_ = (([5, 3] : List Int)) := ⟨_, rfl⟩
 replace H : ((q11z.f k 6 0 y20 ([] : List (S53)) 0 0 ([] : List Int) (([4] : List Int)) 0 0 0 0).bind fun bt26 => ((q11z.f k 8 0 ([] : List Int) (([(⟨false, (([(⟨4259840000, 4259905535⟩ : S50)] : List (S50)))⟩ : S53)] : List (S53))) 0 0 ([] : List Int) (([458759, 4259840001] : List Int)) 0 0 0 0).bind fun bt48 => ((q13z.f k t9 (([1, 2, 3] : List Int))).bind fun t64 => (if t64 = true then ((q13z.f k bt26.2.2.2.1 (([3, 4, 5] : List Int))).bind fun t68 => (if t68 = true then ((q13z.f k bt48.2.2.2.1 (([458759] : List Int))).bind fun t72 => (some t72)) else (some false))) else (some false))))) = some r := by first | (rw [hy20]; with_reducible exact H) | (have H2_ := (Option.bind_some _ _).symm.trans H; rw [hy20]; with_reducible exact H2_) | (have H2_ := (Option.bind_some _ _).symm.trans H; with_reducible exact H2_) | with_reducible exact H | (rw [hy20]; exact H) | exact H
 have Ny20 := Aside0.mk hy20
 clear hy20
 obtain ⟨y23, hy23⟩ : ∃ y_ : List Int, y_ = (([4] : List Int)) := ⟨_, rfl⟩
 replace H : ((q11z.f k 6 0 y20 ([] : List (S53)) 0 0 ([] : List Int) y23 0 0 0 0).bind fun bt26 => ((q11z.f k 8 0 ([] : List Int) (([(⟨false, (([(⟨4259840000, 4259905535⟩ : S50)] : List (S50)))⟩ : S53)] : List (S53))) 0 0 ([] : List Int) (([458759, 4259840001] : List Int)) 0 0 0 0).bind fun bt48 => ((q13z.f k t9 (([1, 2, 3] : List Int))).bind fun t64 => (if t64 = true then ((q13z.f k bt26.2.2.2.1 (([3, 4, 5] : List Int))).bind fun t68 => (if t68 = true then ((q13z.f k bt48.2.2.2.1 (([458759] : List Int))).bind fun t72 => (some t72)) else (some false))) else (some false))))) = some r := by first | (rw [hy23]; with_reducible exact H) | (have H2_ := (Option.bind_some _ _).symm.trans H; rw [hy23]; with_reducible exact H2_) | (have H2_ := (Option.bind_some _ _).symm.trans H; with_reducible exact H2_) | with_reducible exact H | (rw [hy23]; exact H) | exact H
 have Ny23 := Aside0.mk hy23
 clear hy23
 replace H := Option.bind_eq_some_iff.mp H
 obtain ⟨⟨t26, t27, t28, t31, t34, t35, t36, t37⟩, A20, H⟩ := H
 replace H : ((q11z.f k 8 0 ([] : List Int) (([(⟨false, (([(⟨4259840000, 4259905535⟩ : S50)] : List (S50)))⟩ : S53)] : List (S53))) 0 0 ([] : List Int) (([458759, 4259840001] : List Int)) 0 0 0 0).bind fun bt48 => ((q13z.f k t9 (([1, 2, 3] : List Int))).bind fun t64 => (if t64 = true then ((q13z.f k t31 (([3, 4, 5] : List Int))).bind fun t68 => (if t68 = true then ((q13z.f k bt48.2.2.2.1 (([458759] : List Int))).bind fun t72 => (some t72)) else (some false))) else (some false)))) = some r := H
 have A2 := Aside0.mk A20
 clear A20
 obtain ⟨y39, hy39⟩ : ∃ y_ : List (S50), y_ = (([(⟨4259840000, 4259905535⟩ : S50)] : List (S50))) := ⟨_, rfl⟩
 replace H : ((q11z.f k 8 0 ([] : List Int) (([(⟨false, y39⟩ : S53)] : List (S53))) 0 0 ([] : List Int) (([458759, 4259840001] : List Int)) 0 0 0 0).bind fun bt48 => ((q13z.f k t9 (([1, 2, 3] : List Int))).bind fun t64 => (if t64 = true then ((q13z.f k t31 (([3, 4, 5] : List Int))).bind fun t68 => (if t68 = true then ((q13z.f k bt48.2.2.2.1 (([458759] : List Int))).bind fun t72 => (some t72)) else (some false))) else (some false)))) = some r := by first | (rw [hy39]; with_reducible exact H) | (have H2_ := (Option.bind_some _ _).symm.trans H; rw [hy39]; with_reducible exact H2_) | (have H2_ := (Option.bind_some _ _).symm.trans H; with_reducible exact H2_) | with_reducible exact H | (rw [hy39]; exact H) | exact H
 have Ny39 := Aside0.mk hy39
 clear hy39
 obtain ⟨y42, hy42⟩ : ∃ y_ : List (S53), y_ = (([(⟨false, y39⟩ : S53)] : List (S53))) := ⟨_, rfl⟩
 replace H : ((q11z.f k 8 0 ([] : List Int) y42 0 0 ([] : List Int) (([458759, 4259840001] : List Int)) 0 0 0 0).bind fun bt48 => ((q13z.f k t9 (([1, 2, 3] : List Int))).bind fun t64 => (if t64 = true then ((q13z.f k t31 (([3, 4, 5] : List Int))).bind fun t68 => (if t68 = true then ((q13z.f k bt48.2.2.2.1 (([458759] : List Int))).bind fun t72 => (some t72)) else (some false))) else (some false)))) = some r := by first | (rw [hy42]; with_reducible exact H) | (have H2_ := (Option.bind_some _ _).symm.trans H; rw [hy42]; with_reducible exact H2_) | (have H2_ := (Option.bind_some _ _).symm.trans H; with_reducible exact H2_) | with_reducible exact H | (rw [hy42]; exact H) | exact H
 have Ny42 := Aside0.mk hy42
 clear hy42
 obtain ⟨y45, hy45⟩ : ∃ y_ : List Int, y_ = (([458759, 4259840001] : List Int)) := ⟨_, rfl⟩
 replace H : ((q11z.f k 8 0 ([] : List Int) y42 0 0 ([] : List Int) y45 0 0 0 0).bind fun bt48 => ((q13z.f k t9 (([1, 2, 3] : List Int))).bind fun t64 => (if t64 = true then ((q13z.f k t31 (([3, 4, 5] : List Int))).bind fun t68 => (if t68 = true then ((q13z.f k bt48.2.2.2.1 (([458759] : List Int))).bind fun t72 => (some t72)) else (some false))) else (some false)))) = some r := by first | (rw [hy45]; with_reducible exact H) | (have H2_ := (Option.bind_some _ _).symm.trans H; rw [hy45]; with_reducible exact H2_) | (have H2_ := (Option.bind_some _ _).symm.trans H; with_reducible exact H2_) | with_reducible exact H | (rw [hy45]; exact H) | exact H
 have Ny45 := Aside0.mk hy45
 clear hy45
 replace H := Option.bind_eq_some_iff.mp H
 obtain ⟨⟨t48, t49, t50, t53, t56, t57, t58, t59⟩, A30, H⟩ := H
 replace H : ((q13z.f k t9 (([1, 2, 3] : List Int))).bind fun t64 => (if t64 = true then ((q13z.f k t31 (([3, 4, 5] : List Int))).bind fun t68 => (if t68 = true then ((q13z.f k t53 (([458759] : List Int))).bind fun t72 => (some t72)) else (some false))) else (some false))) = some r := H
 have A3 := Aside0.mk A30
 clear A30
 obtain ⟨y61, hy61⟩ : ∃ y_ : List Int, y_ = (([1, 2, 3] : List Int)) := ⟨_, rfl⟩
 replace H : ((q13z.f k t9 y61).bind fun t64 => (if t64 = true then ((q13z.f k t31 (([3, 4, 5] : List Int))).bind fun t68 => (if t68 = true then ((q13z.f k t53 (([458759] : List Int))).bind fun t72 => (some t72)) else (some false))) else (some false))) = some r := by first | (rw [hy61]; with_reducible exact H) | (have H2_ := (Option.bind_some _ _).symm.trans H; rw [hy61]; with_reducible exact H2_) | (have H2_ := (Option.bind_some _ _).symm.trans H; with_reducible exact H2_) | with_reducible exact H | (rw [hy61]; exact H) | exact H
 have Ny61 := Aside0.mk hy61
 clear hy61
 replace H := Option.bind_eq_some_iff.mp H
 obtain ⟨t64, A40, H⟩ := H
 replace H : (if t64 = true then ((q13z.f k t31 (([3, 4, 5] : List Int))).bind fun t68 => (if t68 = true then ((q13z.f k t53 (([458759] : List Int))).bind fun t72 => (some t72)) else (some false))) else (some false)) = some r := H
 have A4 := Aside0.mk A40
 clear A40
 have HH_c5 := Aside0.mk H
 clear H
 go_enter Try.func8, Try.ntmps8
 go_upto_region 4 with (first | ((with_reducible refine gate_dst (N := 4) rfl ?_); (try (refine gate_guard (by rfl) ?_; dsimp only)); refine Kd.R_lit (Kd.int .u32) _ 22 ?hg (N := 4) ?hd (xs := ([1, 2] : List Int)) (inner := [.int .u32 1, .int .u32 2]) (ok := fun _ => True) (okp := fun _ => True) ?hr ?hp (fun _ hk => hk) trivial (Below.refl _ _) (Nat.le_refl _) (by simp) ?_; (case hd => rfl); (case hg => rfl); (case hr => first | (go_simp; done) | (go_simp; rfl)); (case hp => exact (Reps.one (show Kd.M (Kd.int .u32) _ _ _ 1 [.int .u32 1] from rfl) (Reps.one (show Kd.M (Kd.int .u32) _ _ _ 2 [.int .u32 2] from rfl) (Reps.none _ _)))); intro v2 w9 ho10 hb hg_ hnew_; clear hg_ hnew_; (first | rw [← Ny1.out] at ho10 | (simp only [Int.reduceToNat] at ho10; rw [← Ny1.out] at ho10)); have HO3 := Aside0.mk (Kd.R_lower ho10 (below_size (hbW HB))); replace HB := hbS HB hb; clear hb ho10; obtain ⟨Ao11, co11, eo11⟩ := Kd.R_slice HO3.out; subst eo11) | ((with_reducible refine gate_dst (N := 6) rfl ?_); (try (refine gate_guard (by rfl) ?_; dsimp only)); refine Kd.R_lit (Kd.int .u32) _ 22 ?hg (N := 6) ?hd (xs := ([3] : List Int)) (inner := [.int .u32 3]) (ok := fun _ => True) (okp := fun _ => True) ?hr ?hp (fun _ hk => hk) trivial (Below.refl _ _) (Nat.le_refl _) (by simp) ?_; (case hd => rfl); (case hg => rfl); (case hr => first | (go_simp; done) | (go_simp; rfl)); (case hp => exact (Reps.one (show Kd.M (Kd.int .u32) _ _ _ 3 [.int .u32 3] from rfl) (Reps.none _ _))); intro v5 w12 ho13 hb hg_ hnew_; clear hg_ hnew_; (first | rw [← Ny4.out] at ho13 | (simp only [Int.reduceToNat] at ho13; rw [← Ny4.out] at ho13)); have HO6 := Aside0.mk (Kd.R_lower (Kd.R_new' ho13 (Kd.R_lt (rW HO3))) (below_size (hbW HB))); replace HO3 := Aside0.mk (Kd.R_elder' (rW HO3) (Kd.R_base ho13) hb); replace HB := hbS HB hb; clear hb ho13; obtain ⟨Ao14, co14, eo14⟩ := Kd.R_slice HO6.out; subst eo14) | ((with_reducible refine gate_callee (f := 13) rfl ?_); refine goesL_ (some 8) rfl rfl Try.func13 (by kernel_rfl) rfl #[.agg #[.int .i64 5, .int .u32 0, .slice Ao11 y1.length co11, .slice none 0 0], .agg #[.int .u32 0, .int .i64 0, .slice Ao14 y4.length co14, .slice none 0 0, .int .u32 0, .int .u32 0, .int .i64 0, .int .u32 0]] rfl (by (try simp only [List.map_toArray, List.map_cons, List.map_nil]); first | done | rfl | (simp only [List.length_drop, List.length_take]; rfl)) ?_; (refine (q11z.calls k 5 0 (fun k_ => some k_ = (.slice Ao11 y1.length co11 : Value).ownBlock) _ _ y1 _ _ ([] : List (S53)) 0 0 _ _ y4 _ _ ([] : List Int) 0 0 0 0 t7 t8 t9 t12 t15 t16 t17 t18 _ ?side1 ?side2 ?side3 ?side4 ?side5 ?side6 ?side7 A1.out).mono ?_); (case side1 => exact Kd.R_V (Kd.R_tight rfl (HO3.out))); (case side2 => exact Kd.C_nil _ _); (case side3 => exact Nat.le_refl _); (case side4 => repeat (first | exact (Kd.R_reads' HO6.out).2.2 | (with_reducible refine Kd.C_alloc ?_ _) | (with_reducible refine Kd.C_drewN ?_ _) | (with_reducible refine Kd.C_drew ?_))); (case side5 => exact (Kd.R_reads' HO6.out).2.1); (case side6 => exact Kd.C_nil _ _); (case side7 => exact Nat.le_refl _); rintro e w15 ⟨v10, v13, rfl, ho0, ho1, hb⟩; refine ⟨_, rfl, ?_⟩; have HO11 := Aside0.mk (Kd.R_lower (Kd.R_new' (Kd.R_new' (Kd.R_mono (ok' := fun k_ => some k_ ≠ (v13 : Value).ownBlock) ho0 (fun _ hk_ => hk_.2)) (Kd.R_lt (rW HO3))) (Kd.R_lt (rW HO6))) (below_size (hbW HB))); have HO14 := Aside0.mk (Kd.R_lower (Kd.R_new' (Kd.R_new' (Kd.R_mono (ok' := fun k_ => some k_ ≠ (v10 : Value).ownBlock) ho1 (fun _ hk_ => hk_.2)) (Kd.R_lt (rW HO3))) (Kd.R_lt (rW HO6))) (below_size (hbW HB))); replace HO3 := Aside0.mk (Kd.R_mono (Kd.R_told (Kd.R_told (Kd.R_old (rW HO3) hb) (Kd.R_base ho0)) (Kd.R_base ho1)) (fun _ h_ => h_.1)); replace HO6 := Aside0.mk (Kd.R_mono (Kd.R_told (Kd.R_told (Kd.R_old (rW HO6) hb) (Kd.R_base ho0)) (Kd.R_base ho1)) (fun _ h_ => h_.1)); replace HB := hbS HB hb; (try clear hb); (try clear hk); (try clear ho0); (try clear ho1)) | ((with_reducible refine gate_dst (N := 1) rfl ?_); (try (refine gate_guard (by rfl) ?_; dsimp only)); refine box_event ?hg (N := 1) ?hd (cs := #[.int .u32 0, .int .i64 0, .slice none 0 0, .slice none 0 0, .int .u32 0, .int .u32 0, .int .i64 0, .int .u32 0]) (t := 30) ?hr ?_; (case hd => rfl); (case hg => rfl); (case hr => first | (go_simp; done) | (go_simp; rfl)); intro gb19 hg w16 hbox hb; have BK19 := Aside0.mk (hbox); have GW19 := Aside0.mk ((by rw [hg]; exact (below_size (hbW HB)) : w.heap.size ≤ gb19)); have GE19 := Aside0.mk ((by rw [hg]; exact (below_size (hbW HB)) : w.heap.size ≤ gb19)); replace HO3 := Aside0.mk (Kd.R_below (rW HO3) hb); replace HO6 := Aside0.mk (Kd.R_below (rW HO6) hb); replace HO11 := Aside0.mk (Kd.R_below (rW HO11) hb); replace HO14 := Aside0.mk (Kd.R_below (rW HO14) hb); replace HB := hbS HB hb; clear hb hbox hg; obtain ⟨hcz17_0, hcz17_1, hcz17_2, hcz17_3, hcz17_4, hcz17_5, hcz17_6, hcz17_7, hfz17_0, hfz17_1, hfz17_2, hfz17_3, hfz17_4, hfz17_5, hfz17_6, hfz17_7⟩ := bc8 BK19; obtain ⟨Ao18, co18, eo18⟩ := Kd.R_slice HO11.out; subst eo18; obtain ⟨Ao19, co19, eo19⟩ := Kd.R_slice HO14.out; subst eo19) | ((with_reducible refine gate_dst (N := 9) rfl ?_); (try (refine gate_guard (by rfl) ?_; dsimp only)); refine Kd.R_lit (Kd.int .u32) _ 22 ?hg (N := 9) ?hd (xs := ([5, 3] : List Int)) (inner := [.int .u32 5, .int .u32 3]) (ok := fun _ => True) (okp := fun _ => True) ?hr ?hp (fun _ hk => hk) trivial (Below.refl _ _) (Nat.le_refl _) (by simp) ?_; (case hd => rfl); (case hg => rfl); (case hr => first | (go_simp; done) | (go_simp; rfl)); (case hp => exact (Reps.one (show Kd.M (Kd.int .u32) _ _ _ 5 [.int .u32 5] from rfl) (Reps.one (show Kd.M (Kd.int .u32) _ _ _ 3 [.int .u32 3] from rfl) (Reps.none _ _)))); intro v21 w20 ho21 hb hg_ hnew_; clear hg_ hnew_; (first | rw [← Ny20.out] at ho21 | (simp only [Int.reduceToNat] at ho21; rw [← Ny20.out] at ho21)); have HO22 := Aside0.mk (Kd.R_lower (Kd.R_new' (Kd.R_new' (Kd.R_new' (Kd.R_new' ho21 (Kd.R_lt (rW HO3))) (Kd.R_lt (rW HO6))) (Kd.R_lt (rW HO11))) (Kd.R_lt (rW HO14))) (below_size (hbW HB))); replace HO3 := Aside0.mk (Kd.R_elder' (rW HO3) (Kd.R_base ho21) hb); replace HO6 := Aside0.mk (Kd.R_elder' (rW HO6) (Kd.R_base ho21) hb); replace HO11 := Aside0.mk (Kd.R_elder' (rW HO11) (Kd.R_base ho21) hb); replace HO14 := Aside0.mk (Kd.R_elder' (rW HO14) (Kd.R_base ho21) hb); replace BK19 := Aside0.mk (blk_below (g := gb19) (o := .cells #[.int .u32 t7, .int .i64 t8, .slice Ao18 t9.length co18, .slice Ao19 t12.length co19, .int .u32 t15, .int .u32 t16, .int .i64 t17, .int .u32 t18] 30 (0, 0)) (bp8 BK19) hb); replace HB := hbS HB hb; clear hb ho21; obtain ⟨Ao22, co22, eo22⟩ := Kd.R_slice HO22.out; subst eo22) | ((with_reducible refine gate_dst (N := 11) rfl ?_); (try (refine gate_guard (by rfl) ?_; dsimp only)); refine Kd.R_lit (Kd.int .u32) _ 22 ?hg (N := 11) ?hd (xs := ([4] : List Int)) (inner := [.int .u32 4]) (ok := fun _ => True) (okp := fun _ => True) ?hr ?hp (fun _ hk => hk) trivial (Below.refl _ _) (Nat.le_refl _) (by simp) ?_; (case hd => rfl); (case hg => rfl); (case hr => first | (go_simp; done) | (go_simp; rfl)); (case hp => exact (Reps.one (show Kd.M (Kd.int .u32) _ _ _ 4 [.int .u32 4] from rfl) (Reps.none _ _))); intro v24 w23 ho24 hb hg_ hnew_; clear hg_ hnew_; (first | rw [← Ny23.out] at ho24 | (simp only [Int.reduceToNat] at ho24; rw [← Ny23.out] at ho24)); have HO25 := Aside0.mk (Kd.R_lower (Kd.R_new' (Kd.R_new' (Kd.R_new' (Kd.R_new' (Kd.R_new' ho24 (Kd.R_lt (rW HO3))) (Kd.R_lt (rW HO6))) (Kd.R_lt (rW HO11))) (Kd.R_lt (rW HO14))) (Kd.R_lt (rW HO22))) (below_size (hbW HB))); replace HO3 := Aside0.mk (Kd.R_elder' (rW HO3) (Kd.R_base ho24) hb); replace HO6 := Aside0.mk (Kd.R_elder' (rW HO6) (Kd.R_base ho24) hb); replace HO11 := Aside0.mk (Kd.R_elder' (rW HO11) (Kd.R_base ho24) hb); replace HO14 := Aside0.mk (Kd.R_elder' (rW HO14) (Kd.R_base ho24) hb); replace HO22 := Aside0.mk (Kd.R_elder' (rW HO22) (Kd.R_base ho24) hb); replace BK19 := bkB BK19 hb; replace HB := hbS HB hb; clear hb ho24; obtain ⟨Ao25, co25, eo25⟩ := Kd.R_slice HO25.out; subst eo25) | ((with_reducible refine gate_callee (f := 13) rfl ?_); refine goesL_ (some 13) rfl rfl Try.func13 (by kernel_rfl) rfl #[.agg #[.int .i64 6, .int .u32 0, .slice Ao22 y20.length co22, .slice none 0 0], .agg #[.int .u32 0, .int .i64 0, .slice none 0 0, .slice Ao25 y23.length co25, .int .u32 0, .int .u32 0, .int .i64 0, .int .u32 0]] rfl (by (try simp only [List.map_toArray, List.map_cons, List.map_nil]); first | done | rfl | (simp only [List.length_drop, List.length_take]; rfl)) ?_; (refine (q11z.calls k 6 0 (fun k_ => some k_ = (.slice Ao22 y20.length co22 : Value).ownBlock) _ _ y20 _ _ ([] : List (S53)) 0 0 _ _ ([] : List Int) _ _ y23 0 0 0 0 t26 t27 t28 t31 t34 t35 t36 t37 _ ?side1 ?side2 ?side3 ?side4 ?side5 ?side6 ?side7 A2.out).mono ?_); (case side1 => exact Kd.R_V (Kd.R_tight rfl (Kd.R_types (HO22.out) BK19.out (by decide)))); (case side2 => exact Kd.C_nil _ _); (case side3 => exact Nat.le_refl _); (case side4 => exact Kd.C_nil _ _); (case side5 => exact Nat.le_refl _); (case side6 => repeat (first | exact (Kd.R_reads' HO25.out).2.2 | (with_reducible refine Kd.C_alloc ?_ _) | (with_reducible refine Kd.C_drewN ?_ _) | (with_reducible refine Kd.C_drew ?_))); (case side7 => exact (Kd.R_reads' HO25.out).2.1); rintro e w26 ⟨v29, v32, rfl, ho0, ho1, hb⟩; refine ⟨_, rfl, ?_⟩; have HO30 := Aside0.mk (Kd.R_lower (Kd.R_new' (Kd.R_new' (Kd.R_new' (Kd.R_new' (Kd.R_new' (Kd.R_new' (Kd.R_mono (ok' := fun k_ => some k_ ≠ (v32 : Value).ownBlock) ho0 (fun _ hk_ => hk_.2)) (Kd.R_lt (rW HO3))) (Kd.R_lt (rW HO6))) (Kd.R_lt (rW HO11))) (Kd.R_lt (rW HO14))) (Kd.R_lt (rW HO22))) (Kd.R_lt (rW HO25))) (below_size (hbW HB))); have HO33 := Aside0.mk (Kd.R_lower (Kd.R_new' (Kd.R_new' (Kd.R_new' (Kd.R_new' (Kd.R_new' (Kd.R_new' (Kd.R_mono (ok' := fun k_ => some k_ ≠ (v29 : Value).ownBlock) ho1 (fun _ hk_ => hk_.2)) (Kd.R_lt (rW HO3))) (Kd.R_lt (rW HO6))) (Kd.R_lt (rW HO11))) (Kd.R_lt (rW HO14))) (Kd.R_lt (rW HO22))) (Kd.R_lt (rW HO25))) (below_size (hbW HB))); replace HO3 := Aside0.mk (Kd.R_mono (Kd.R_told (Kd.R_told (Kd.R_old (rW HO3) hb) (Kd.R_base ho0)) (Kd.R_base ho1)) (fun _ h_ => h_.1)); replace HO6 := Aside0.mk (Kd.R_mono (Kd.R_told (Kd.R_told (Kd.R_old (rW HO6) hb) (Kd.R_base ho0)) (Kd.R_base ho1)) (fun _ h_ => h_.1)); replace HO11 := Aside0.mk (Kd.R_mono (Kd.R_told (Kd.R_told (Kd.R_old (rW HO11) hb) (Kd.R_base ho0)) (Kd.R_base ho1)) (fun _ h_ => h_.1)); replace HO14 := Aside0.mk (Kd.R_mono (Kd.R_told (Kd.R_told (Kd.R_old (rW HO14) hb) (Kd.R_base ho0)) (Kd.R_base ho1)) (fun _ h_ => h_.1)); replace HO22 := Aside0.mk (Kd.R_mono (Kd.R_told (Kd.R_told (Kd.R_old (rW HO22) hb) (Kd.R_base ho0)) (Kd.R_base ho1)) (fun _ h_ => h_.1)); replace HO25 := Aside0.mk (Kd.R_mono (Kd.R_told (Kd.R_told (Kd.R_old (rW HO25) hb) (Kd.R_base ho0)) (Kd.R_base ho1)) (fun _ h_ => h_.1)); replace BK19 := bkB BK19 hb; replace HB := hbS HB hb; (try clear hb); (try clear hk); (try clear ho0); (try clear ho1)) | ((with_reducible refine gate_dst (N := 2) rfl ?_); (try (refine gate_guard (by rfl) ?_; dsimp only)); refine box_event ?hg (N := 2) ?hd (cs := #[.int .u32 0, .int .i64 0, .slice none 0 0, .slice none 0 0, .int .u32 0, .int .u32 0, .int .i64 0, .int .u32 0]) (t := 30) ?hr ?_; (case hd => rfl); (case hg => rfl); (case hr => first | (go_simp; done) | (go_simp; rfl)); intro gb38 hg w27 hbox hb; have BK38 := Aside0.mk (hbox); have GW38 := Aside0.mk ((by rw [hg]; exact (below_size (hbW HB)) : w.heap.size ≤ gb38)); have GE38 := Aside0.mk ((by rw [hg]; exact (below_size (hbW HB)) : w.heap.size ≤ gb38)); have NB19_38 := Aside0.mk ((by rw [hg]; exact Nat.ne_of_lt (blk_lt (bkW BK19)) : gb19 ≠ gb38)); have NB38_19 := Aside0.mk ((by rw [hg]; exact Nat.ne_of_gt (blk_lt (bkW BK19)) : gb38 ≠ gb19)); replace HO3 := Aside0.mk (Kd.R_below (rW HO3) hb); replace HO6 := Aside0.mk (Kd.R_below (rW HO6) hb); replace HO11 := Aside0.mk (Kd.R_below (rW HO11) hb); replace HO14 := Aside0.mk (Kd.R_below (rW HO14) hb); replace HO22 := Aside0.mk (Kd.R_below (rW HO22) hb); replace HO25 := Aside0.mk (Kd.R_below (rW HO25) hb); replace HO30 := Aside0.mk (Kd.R_below (rW HO30) hb); replace HO33 := Aside0.mk (Kd.R_below (rW HO33) hb); replace BK19 := bkB BK19 hb; replace HB := hbS HB hb; clear hb hbox hg; have hnb28 := NB38_19.out; have hnc28 := NB19_38.out; obtain ⟨hcz29_0, hcz29_1, hcz29_2, hcz29_3, hcz29_4, hcz29_5, hcz29_6, hcz29_7, hfz29_0, hfz29_1, hfz29_2, hfz29_3, hfz29_4, hfz29_5, hfz29_6, hfz29_7⟩ := bc8 BK38; obtain ⟨Ao30, co30, eo30⟩ := Kd.R_slice HO30.out; subst eo30; obtain ⟨Ao31, co31, eo31⟩ := Kd.R_slice HO33.out; subst eo31) | ((with_reducible refine gate_dst (N := 15) rfl ?_); (try (refine gate_guard (by rfl) ?_; dsimp only)); refine Kd.R_lit k50 _ 50 ?hg (N := 15) ?hd (xs := ([(⟨4259840000, 4259905535⟩ : S50)] : List (S50))) (inner := [.int .u32 4259840000, .int .u32 4259905535]) (ok := fun _ => True) (okp := fun _ => True) ?hr ?hp (fun _ hk => hk) trivial (Below.refl _ _) (Nat.le_refl _) (by simp) ?_; (case hd => rfl); (case hg => rfl); (case hr => first | (go_simp; done) | (go_simp; rfl)); (case hp => exact (Reps.c2 (show Kd.M k50 _ _ _ (⟨4259840000, 4259905535⟩ : S50) [.int .u32 4259840000, .int .u32 4259905535] from (k50_mkM _ _ _ (⟨4259840000, 4259905535⟩ : S50) )) (Reps.none _ _))); intro v40 w32 ho33 hb hg_ hnew_; clear hg_ hnew_; (first | rw [← Ny39.out] at ho33 | (simp only [Int.reduceToNat] at ho33; rw [← Ny39.out] at ho33)); have HO41 := Aside0.mk (Kd.R_lower ho33 (below_size (hbW HB))); replace HO3 := Aside0.mk (Kd.R_below (rW HO3) hb); replace HO6 := Aside0.mk (Kd.R_below (rW HO6) hb); replace HO11 := Aside0.mk (Kd.R_below (rW HO11) hb); replace HO14 := Aside0.mk (Kd.R_below (rW HO14) hb); replace HO22 := Aside0.mk (Kd.R_below (rW HO22) hb); replace HO25 := Aside0.mk (Kd.R_below (rW HO25) hb); replace HO30 := Aside0.mk (Kd.R_below (rW HO30) hb); replace HO33 := Aside0.mk (Kd.R_below (rW HO33) hb); replace BK19 := bvB BK19 hb; replace BK38 := Aside0.mk (blk_below (g := gb38) (o := .cells #[.int .u32 t26, .int .i64 t27, .slice Ao30 t28.length co30, .slice Ao31 t31.length co31, .int .u32 t34, .int .u32 t35, .int .i64 t36, .int .u32 t37] 30 (0, 0)) (bp8 BK38) hb); replace HB := hbS HB hb; clear hb ho33; obtain ⟨Ao34, co34, eo34⟩ := Kd.R_slice HO41.out; subst eo34) | ((with_reducible refine gate_dst (N := 17) rfl ?_); (try (refine gate_guard (by rfl) ?_; dsimp only)); refine Kd.N_lit k53 _ 53 ?hg (N' := 17) ?hd (xs := ([(⟨false, y39⟩ : S53)] : List (S53))) (inner := [.bool false, .slice Ao34 y39.length co34]) (ok := (fun k_ => some k_ ≠ (.slice Ao11 y1.length co11 : Value).ownBlock ∧ some k_ ≠ (.slice Ao14 y4.length co14 : Value).ownBlock ∧ some k_ ≠ (.slice Ao18 t9.length co18 : Value).ownBlock ∧ some k_ ≠ (.slice Ao19 t12.length co19 : Value).ownBlock ∧ some k_ ≠ (.slice Ao22 y20.length co22 : Value).ownBlock ∧ some k_ ≠ (.slice Ao25 y23.length co25 : Value).ownBlock ∧ some k_ ≠ (.slice Ao30 t28.length co30 : Value).ownBlock ∧ some k_ ≠ (.slice Ao31 t31.length co31 : Value).ownBlock ∧ k_ ≠ gb19 ∧ k_ ≠ gb38)) (okp := (fun k_ => some k_ ≠ (.slice Ao11 y1.length co11 : Value).ownBlock ∧ some k_ ≠ (.slice Ao14 y4.length co14 : Value).ownBlock ∧ some k_ ≠ (.slice Ao18 t9.length co18 : Value).ownBlock ∧ some k_ ≠ (.slice Ao19 t12.length co19 : Value).ownBlock ∧ some k_ ≠ (.slice Ao22 y20.length co22 : Value).ownBlock ∧ some k_ ≠ (.slice Ao25 y23.length co25 : Value).ownBlock ∧ some k_ ≠ (.slice Ao30 t28.length co30 : Value).ownBlock ∧ some k_ ≠ (.slice Ao31 t31.length co31 : Value).ownBlock ∧ k_ ≠ gb19 ∧ k_ ≠ gb38)) ?hr ?hp (fun _ hk => hk) ((show ∀ k_, w32.heap.size ≤ k_ → (fun k_ => some k_ ≠ (.slice Ao11 y1.length co11 : Value).ownBlock ∧ some k_ ≠ (.slice Ao14 y4.length co14 : Value).ownBlock ∧ some k_ ≠ (.slice Ao18 t9.length co18 : Value).ownBlock ∧ some k_ ≠ (.slice Ao19 t12.length co19 : Value).ownBlock ∧ some k_ ≠ (.slice Ao22 y20.length co22 : Value).ownBlock ∧ some k_ ≠ (.slice Ao25 y23.length co25 : Value).ownBlock ∧ some k_ ≠ (.slice Ao30 t28.length co30 : Value).ownBlock ∧ some k_ ≠ (.slice Ao31 t31.length co31 : Value).ownBlock ∧ k_ ≠ gb19 ∧ k_ ≠ gb38) k_ from fun k_ hk => ⟨Kd.fresh' (Kd.R_lt (rW HO3)) k_ hk, Kd.fresh' (Kd.R_lt (rW HO6)) k_ hk, Kd.fresh' (Kd.R_lt (rW HO11)) k_ hk, Kd.fresh' (Kd.R_lt (rW HO14)) k_ hk, Kd.fresh' (Kd.R_lt (rW HO22)) k_ hk, Kd.fresh' (Kd.R_lt (rW HO25)) k_ hk, Kd.fresh' (Kd.R_lt (rW HO30)) k_ hk, Kd.fresh' (Kd.R_lt (rW HO33)) k_ hk, Kd.freshB (g := gb19) (o := .cells #[.int .u32 t7, .int .i64 t8, .slice Ao18 t9.length co18, .slice Ao19 t12.length co19, .int .u32 t15, .int .u32 t16, .int .i64 t17, .int .u32 t18] 30 (0, 0)) (bkW BK19) k_ hk, Kd.freshB (g := gb38) (o := .cells #[.int .u32 t26, .int .i64 t27, .slice Ao30 t28.length co30, .slice Ao31 t31.length co31, .int .u32 t34, .int .u32 t35, .int .i64 t36, .int .u32 t37] 30 (0, 0)) (bkW BK38) k_ hk⟩) _ (Nat.le_refl _)) (Below.refl _ _) (Nat.le_refl _) (by simp) ?_; (case hd => rfl); (case hg => rfl); (case hr => first | (go_simp; done) | (go_simp; rfl)); (case hp => exact (Reps.c2 (show Kd.FK k53 _ _ (⟨false, y39⟩ : S53) [.bool false, .slice Ao34 y39.length co34] from (k53_mkF _ _ (⟨false, y39⟩ : S53) (Kd.R_reads' (Kd.R_mono (ok' := (fun k_ => some k_ ≠ (.slice Ao11 y1.length co11 : Value).ownBlock ∧ some k_ ≠ (.slice Ao14 y4.length co14 : Value).ownBlock ∧ some k_ ≠ (.slice Ao18 t9.length co18 : Value).ownBlock ∧ some k_ ≠ (.slice Ao19 t12.length co19 : Value).ownBlock ∧ some k_ ≠ (.slice Ao22 y20.length co22 : Value).ownBlock ∧ some k_ ≠ (.slice Ao25 y23.length co25 : Value).ownBlock ∧ some k_ ≠ (.slice Ao30 t28.length co30 : Value).ownBlock ∧ some k_ ≠ (.slice Ao31 t31.length co31 : Value).ownBlock ∧ k_ ≠ gb19 ∧ k_ ≠ gb38)) (Kd.R_types (Kd.R_types (Kd.R_apart' (Kd.R_apart' (Kd.R_apart' (Kd.R_apart' (Kd.R_apart' (Kd.R_apart' (Kd.R_apart' (Kd.R_apart' (HO41.out) (Kd.R_typed HO3.out) (by decide)) (Kd.R_typed HO6.out) (by decide)) (Kd.R_typed HO11.out) (by decide)) (Kd.R_typed HO14.out) (by decide)) (Kd.R_typed HO22.out) (by decide)) (Kd.R_typed HO25.out) (by decide)) (Kd.R_typed HO30.out) (by decide)) (Kd.R_typed HO33.out) (by decide)) BK19.out (by decide)) BK38.out (by decide)) (fun k_ hk => ⟨hk.1.1.1.1.1.1.1.1.1.2, ⟨hk.1.1.1.1.1.1.1.1.2, ⟨hk.1.1.1.1.1.1.1.2, ⟨hk.1.1.1.1.1.1.2, ⟨hk.1.1.1.1.1.2, ⟨hk.1.1.1.1.2, ⟨hk.1.1.1.2, ⟨hk.1.1.2, ⟨hk.1.2, hk.2⟩⟩⟩⟩⟩⟩⟩⟩⟩))).2.1 (Kd.R_F (Kd.R_mono (ok' := (fun k_ => some k_ ≠ (.slice Ao11 y1.length co11 : Value).ownBlock ∧ some k_ ≠ (.slice Ao14 y4.length co14 : Value).ownBlock ∧ some k_ ≠ (.slice Ao18 t9.length co18 : Value).ownBlock ∧ some k_ ≠ (.slice Ao19 t12.length co19 : Value).ownBlock ∧ some k_ ≠ (.slice Ao22 y20.length co22 : Value).ownBlock ∧ some k_ ≠ (.slice Ao25 y23.length co25 : Value).ownBlock ∧ some k_ ≠ (.slice Ao30 t28.length co30 : Value).ownBlock ∧ some k_ ≠ (.slice Ao31 t31.length co31 : Value).ownBlock ∧ k_ ≠ gb19 ∧ k_ ≠ gb38)) (Kd.R_types (Kd.R_types (Kd.R_apart' (Kd.R_apart' (Kd.R_apart' (Kd.R_apart' (Kd.R_apart' (Kd.R_apart' (Kd.R_apart' (Kd.R_apart' (HO41.out) (Kd.R_typed HO3.out) (by decide)) (Kd.R_typed HO6.out) (by decide)) (Kd.R_typed HO11.out) (by decide)) (Kd.R_typed HO14.out) (by decide)) (Kd.R_typed HO22.out) (by decide)) (Kd.R_typed HO25.out) (by decide)) (Kd.R_typed HO30.out) (by decide)) (Kd.R_typed HO33.out) (by decide)) BK19.out (by decide)) BK38.out (by decide)) (fun k_ hk => ⟨hk.1.1.1.1.1.1.1.1.1.2, ⟨hk.1.1.1.1.1.1.1.1.2, ⟨hk.1.1.1.1.1.1.1.2, ⟨hk.1.1.1.1.1.1.2, ⟨hk.1.1.1.1.1.2, ⟨hk.1.1.1.1.2, ⟨hk.1.1.1.2, ⟨hk.1.1.2, ⟨hk.1.2, hk.2⟩⟩⟩⟩⟩⟩⟩⟩⟩))))) (Reps.none _ _))); intro v43 w35 ho36 hb hg_ hnew_; clear hg_ hnew_; (first | rw [← Ny42.out] at ho36 | (simp only [Int.reduceToNat] at ho36; rw [← Ny42.out] at ho36)); have n0_ := Aside0.mk (Kd.R_below (rW HO3) hb); have n1_ := Aside0.mk (Kd.R_below (rW HO6) hb); have n2_ := Aside0.mk (Kd.R_below (rW HO11) hb); have n3_ := Aside0.mk (Kd.R_below (rW HO14) hb); have n4_ := Aside0.mk (Kd.R_below (rW HO22) hb); have n5_ := Aside0.mk (Kd.R_below (rW HO25) hb); have n6_ := Aside0.mk (Kd.R_below (rW HO30) hb); have n7_ := Aside0.mk (Kd.R_below (rW HO33) hb); have n8_ := Aside0.mk (Kd.N_lower ho36 (below_size (hbW HB))); have n9_ := bkB BK19 hb; have n10_ := bkB BK38 hb; have n11_ := hbS HB hb; clear HO3; clear HO6; clear HO11; clear HO14; clear HO22; clear HO25; clear HO30; clear HO33; clear BK19; clear BK38; clear HB; clear HO41; have HO3 := n0_; have HO6 := n1_; have HO11 := n2_; have HO14 := n3_; have HO22 := n4_; have HO25 := n5_; have HO30 := n6_; have HO33 := n7_; have HO44 := n8_; have BK19 := n9_; have BK38 := n10_; have HB := n11_; clear n0_ n1_ n2_ n3_ n4_ n5_ n6_ n7_ n8_ n9_ n10_ n11_; clear hb ho36; obtain ⟨Ao37, co37, eo37⟩ := Kd.N_slice HO44.out; subst eo37) | ((with_reducible refine gate_dst (N := 19) rfl ?_); (try (refine gate_guard (by rfl) ?_; dsimp only)); refine Kd.R_lit (Kd.int .u32) _ 22 ?hg (N := 19) ?hd (xs := ([458759, 4259840001] : List Int)) (inner := [.int .u32 458759, .int .u32 4259840001]) (ok := fun _ => True) (okp := fun _ => True) ?hr ?hp (fun _ hk => hk) trivial (Below.refl _ _) (Nat.le_refl _) (by simp) ?_; (case hd => rfl); (case hg => rfl); (case hr => first | (go_simp; done) | (go_simp; rfl)); (case hp => exact (Reps.one (show Kd.M (Kd.int .u32) _ _ _ 458759 [.int .u32 458759] from rfl) (Reps.one (show Kd.M (Kd.int .u32) _ _ _ 4259840001 [.int .u32 4259840001] from rfl) (Reps.none _ _)))); intro v46 w38 ho39 hb hg_ hnew_; clear hg_ hnew_; (first | rw [← Ny45.out] at ho39 | (simp only [Int.reduceToNat] at ho39; rw [← Ny45.out] at ho39)); have HO47 := Aside0.mk (Kd.R_lower (Kd.R_new' (Kd.R_new' (Kd.R_new' (Kd.R_new' (Kd.R_new' (Kd.R_new' (Kd.R_new' (Kd.R_new' ho39 (Kd.R_lt (rW HO3))) (Kd.R_lt (rW HO6))) (Kd.R_lt (rW HO11))) (Kd.R_lt (rW HO14))) (Kd.R_lt (rW HO22))) (Kd.R_lt (rW HO25))) (Kd.R_lt (rW HO30))) (Kd.R_lt (rW HO33))) (below_size (hbW HB))); replace HO3 := Aside0.mk (Kd.R_elder' (rW HO3) (Kd.R_base ho39) hb); replace HO6 := Aside0.mk (Kd.R_elder' (rW HO6) (Kd.R_base ho39) hb); replace HO11 := Aside0.mk (Kd.R_elder' (rW HO11) (Kd.R_base ho39) hb); replace HO14 := Aside0.mk (Kd.R_elder' (rW HO14) (Kd.R_base ho39) hb); replace HO22 := Aside0.mk (Kd.R_elder' (rW HO22) (Kd.R_base ho39) hb); replace HO25 := Aside0.mk (Kd.R_elder' (rW HO25) (Kd.R_base ho39) hb); replace HO30 := Aside0.mk (Kd.R_elder' (rW HO30) (Kd.R_base ho39) hb); replace HO33 := Aside0.mk (Kd.R_elder' (rW HO33) (Kd.R_base ho39) hb); replace HO44 := Aside0.mk (Kd.N_elder' (by (with_reducible repeat (first | apply Kd.N_alloc | apply Kd.N_drewN | apply Kd.N_drew)); exact HO44.out) (Kd.R_base ho39) hb); replace BK19 := bkB BK19 hb; replace BK38 := bkB BK38 hb; replace HB := hbS HB hb; clear hb ho39; obtain ⟨Ao40, co40, eo40⟩ := Kd.R_slice HO47.out; subst eo40) | ((with_reducible refine gate_callee (f := 13) rfl ?_); refine goesL_ (some 21) rfl rfl Try.func13 (by kernel_rfl) rfl #[.agg #[.int .i64 8, .int .u32 0, .slice none 0 0, .slice Ao37 y42.length co37], .agg #[.int .u32 0, .int .i64 0, .slice none 0 0, .slice Ao40 y45.length co40, .int .u32 0, .int .u32 0, .int .i64 0, .int .u32 0]] rfl (by (try simp only [List.map_toArray, List.map_cons, List.map_nil]); first | done | rfl | (simp only [List.length_drop, List.length_take]; rfl)) ?_; (refine (q11z.calls k 8 0 (fun k_ => False) _ _ ([] : List Int) _ _ y42 0 0 _ _ ([] : List Int) _ _ y45 0 0 0 0 t48 t49 t50 t53 t56 t57 t58 t59 _ ?side1 ?side2 ?side3 ?side4 ?side5 ?side6 ?side7 A3.out).mono ?_); (case side1 => exact Kd.V_nil _ _ _ _ _); (case side2 => repeat (first | exact (Kd.N_reads' HO44.out).2.2 | (with_reducible refine Kd.C_alloc ?_ _) | (with_reducible refine Kd.C_drewN ?_ _) | (with_reducible refine Kd.C_drew ?_))); (case side3 => exact (Kd.N_reads' HO44.out).2.1); (case side4 => exact Kd.C_nil _ _); (case side5 => exact Nat.le_refl _); (case side6 => repeat (first | exact (Kd.R_reads' HO47.out).2.2 | (with_reducible refine Kd.C_alloc ?_ _) | (with_reducible refine Kd.C_drewN ?_ _) | (with_reducible refine Kd.C_drew ?_))); (case side7 => exact (Kd.R_reads' HO47.out).2.1); rintro e w41 ⟨v51, v54, rfl, ho0, ho1, hb⟩; refine ⟨_, rfl, ?_⟩; have HO52 := Aside0.mk (Kd.R_lower (Kd.R_new' (Kd.R_new' (Kd.R_new' (Kd.R_new' (Kd.R_new' (Kd.R_new' (Kd.R_new' (Kd.R_new' (Kd.R_new' (Kd.R_mono (ok' := fun k_ => some k_ ≠ (v54 : Value).ownBlock) ho0 (fun _ hk_ => hk_.2)) (Kd.R_lt (rW HO3))) (Kd.R_lt (rW HO6))) (Kd.R_lt (rW HO11))) (Kd.R_lt (rW HO14))) (Kd.R_lt (rW HO22))) (Kd.R_lt (rW HO25))) (Kd.R_lt (rW HO30))) (Kd.R_lt (rW HO33))) (Kd.R_lt (rW HO47))) (below_size (hbW HB))); have HO55 := Aside0.mk (Kd.R_lower (Kd.R_new' (Kd.R_new' (Kd.R_new' (Kd.R_new' (Kd.R_new' (Kd.R_new' (Kd.R_new' (Kd.R_new' (Kd.R_new' (Kd.R_mono (ok' := fun k_ => some k_ ≠ (v51 : Value).ownBlock) ho1 (fun _ hk_ => hk_.2)) (Kd.R_lt (rW HO3))) (Kd.R_lt (rW HO6))) (Kd.R_lt (rW HO11))) (Kd.R_lt (rW HO14))) (Kd.R_lt (rW HO22))) (Kd.R_lt (rW HO25))) (Kd.R_lt (rW HO30))) (Kd.R_lt (rW HO33))) (Kd.R_lt (rW HO47))) (below_size (hbW HB))); replace HO3 := Aside0.mk (Kd.R_mono (Kd.R_told (Kd.R_told (Kd.R_old (rW HO3) hb) (Kd.R_base ho0)) (Kd.R_base ho1)) (fun _ h_ => h_.1)); replace HO6 := Aside0.mk (Kd.R_mono (Kd.R_told (Kd.R_told (Kd.R_old (rW HO6) hb) (Kd.R_base ho0)) (Kd.R_base ho1)) (fun _ h_ => h_.1)); replace HO11 := Aside0.mk (Kd.R_mono (Kd.R_told (Kd.R_told (Kd.R_old (rW HO11) hb) (Kd.R_base ho0)) (Kd.R_base ho1)) (fun _ h_ => h_.1)); replace HO14 := Aside0.mk (Kd.R_mono (Kd.R_told (Kd.R_told (Kd.R_old (rW HO14) hb) (Kd.R_base ho0)) (Kd.R_base ho1)) (fun _ h_ => h_.1)); replace HO22 := Aside0.mk (Kd.R_mono (Kd.R_told (Kd.R_told (Kd.R_old (rW HO22) hb) (Kd.R_base ho0)) (Kd.R_base ho1)) (fun _ h_ => h_.1)); replace HO25 := Aside0.mk (Kd.R_mono (Kd.R_told (Kd.R_told (Kd.R_old (rW HO25) hb) (Kd.R_base ho0)) (Kd.R_base ho1)) (fun _ h_ => h_.1)); replace HO30 := Aside0.mk (Kd.R_mono (Kd.R_told (Kd.R_told (Kd.R_old (rW HO30) hb) (Kd.R_base ho0)) (Kd.R_base ho1)) (fun _ h_ => h_.1)); replace HO33 := Aside0.mk (Kd.R_mono (Kd.R_told (Kd.R_told (Kd.R_old (rW HO33) hb) (Kd.R_base ho0)) (Kd.R_base ho1)) (fun _ h_ => h_.1)); replace HO44 := Aside0.mk (Kd.N_mono (Kd.N_told (Kd.N_told (Kd.N_old (by (with_reducible repeat (first | apply Kd.N_alloc | apply Kd.N_drewN | apply Kd.N_drew)); exact HO44.out) hb) (Kd.R_base ho0)) (Kd.R_base ho1)) (fun _ h_ => h_.1)); replace HO47 := Aside0.mk (Kd.R_mono (Kd.R_told (Kd.R_told (Kd.R_old (rW HO47) hb) (Kd.R_base ho0)) (Kd.R_base ho1)) (fun _ h_ => h_.1)); replace BK19 := bkB BK19 hb; replace BK38 := bkB BK38 hb; replace HB := hbS HB hb; (try clear hb); (try clear hk); (try clear ho0); (try clear ho1)) | ((with_reducible refine gate_dst (N := 3) rfl ?_); (try (refine gate_guard (by rfl) ?_; dsimp only)); refine box_event ?hg (N := 3) ?hd (cs := #[.int .u32 0, .int .i64 0, .slice none 0 0, .slice none 0 0, .int .u32 0, .int .u32 0, .int .i64 0, .int .u32 0]) (t := 30) ?hr ?_; (case hd => rfl); (case hg => rfl); (case hr => first | (go_simp; done) | (go_simp; rfl)); intro gb60 hg w42 hbox hb; have BK60 := Aside0.mk (hbox); have GW60 := Aside0.mk ((by rw [hg]; exact (below_size (hbW HB)) : w.heap.size ≤ gb60)); have GE60 := Aside0.mk ((by rw [hg]; exact (below_size (hbW HB)) : w.heap.size ≤ gb60)); have NB19_60 := Aside0.mk ((by rw [hg]; exact Nat.ne_of_lt (blk_lt (bkW BK19)) : gb19 ≠ gb60)); have NB60_19 := Aside0.mk ((by rw [hg]; exact Nat.ne_of_gt (blk_lt (bkW BK19)) : gb60 ≠ gb19)); have NB38_60 := Aside0.mk ((by rw [hg]; exact Nat.ne_of_lt (blk_lt (bkW BK38)) : gb38 ≠ gb60)); have NB60_38 := Aside0.mk ((by rw [hg]; exact Nat.ne_of_gt (blk_lt (bkW BK38)) : gb60 ≠ gb38)); replace HO3 := Aside0.mk (Kd.R_below (rW HO3) hb); replace HO6 := Aside0.mk (Kd.R_below (rW HO6) hb); replace HO11 := Aside0.mk (Kd.R_below (rW HO11) hb); replace HO14 := Aside0.mk (Kd.R_below (rW HO14) hb); replace HO22 := Aside0.mk (Kd.R_below (rW HO22) hb); replace HO25 := Aside0.mk (Kd.R_below (rW HO25) hb); replace HO30 := Aside0.mk (Kd.R_below (rW HO30) hb); replace HO33 := Aside0.mk (Kd.R_below (rW HO33) hb); replace HO44 := Aside0.mk (Kd.N_below (Kd.N_elderB (by (with_reducible repeat (first | apply Kd.N_alloc | apply Kd.N_drewN | apply Kd.N_drew)); exact HO44.out) gb60 (Nat.le_of_eq hg.symm)) hb); replace HO47 := Aside0.mk (Kd.R_below (rW HO47) hb); replace HO52 := Aside0.mk (Kd.R_below (rW HO52) hb); replace HO55 := Aside0.mk (Kd.R_below (rW HO55) hb); replace BK19 := bkB BK19 hb; replace BK38 := bkB BK38 hb; replace HB := hbS HB hb; clear hb hbox hg; have hnb43 := NB60_19.out; have hnc43 := NB19_60.out; have hnb44 := NB60_38.out; have hnc44 := NB38_60.out; obtain ⟨hcz45_0, hcz45_1, hcz45_2, hcz45_3, hcz45_4, hcz45_5, hcz45_6, hcz45_7, hfz45_0, hfz45_1, hfz45_2, hfz45_3, hfz45_4, hfz45_5, hfz45_6, hfz45_7⟩ := bc8 BK60; obtain ⟨Ao46, co46, eo46⟩ := Kd.R_slice HO52.out; subst eo46; obtain ⟨Ao47, co47, eo47⟩ := Kd.R_slice HO55.out; subst eo47; obtain ⟨hcz146_0, hcz146_1, hcz146_2, hcz146_3, hcz146_4, hcz146_5, hcz146_6, hcz146_7, hfz146_0, hfz146_1, hfz146_2, hfz146_3, hfz146_4, hfz146_5, hfz146_6, hfz146_7⟩ := bc8 BK19))
 have H := HH_c5.out
 clear HH_c5
 by_cases c5 : t64 = true
 ·
  subst c5
  have H1 : ((q13z.f k t31 (([3, 4, 5] : List Int))).bind fun t68 => (if t68 = true then ((q13z.f k t53 (([458759] : List Int))).bind fun t72 => (some t72)) else (some false))) = some r := by rw [if_pos rfl] at H; exact H
  clear H
  have H := H1
  clear H1
  obtain ⟨y65, hy65⟩ : ∃ y_ : List Int, y_ = (([3, 4, 5] : List Int)) := ⟨_, rfl⟩
  replace H : ((q13z.f k t31 y65).bind fun t68 => (if t68 = true then ((q13z.f k t53 (([458759] : List Int))).bind fun t72 => (some t72)) else (some false))) = some r := by first | (rw [hy65]; with_reducible exact H) | (have H2_ := (Option.bind_some _ _).symm.trans H; rw [hy65]; with_reducible exact H2_) | (have H2_ := (Option.bind_some _ _).symm.trans H; with_reducible exact H2_) | with_reducible exact H | (rw [hy65]; exact H) | exact H
  have Ny65 := Aside0.mk hy65
  clear hy65
  replace H := Option.bind_eq_some_iff.mp H
  obtain ⟨t68, A60, H⟩ := H
  replace H : (if t68 = true then ((q13z.f k t53 (([458759] : List Int))).bind fun t72 => (some t72)) else (some false)) = some r := H
  have A6 := Aside0.mk A60
  clear A60
  by_cases c7 : t68 = true
  ·
   subst c7
   have H1 : ((q13z.f k t53 (([458759] : List Int))).bind fun t72 => (some t72)) = some r := by rw [if_pos rfl] at H; exact H
   clear H
   have H := H1
   clear H1
   obtain ⟨y69, hy69⟩ : ∃ y_ : List Int, y_ = (([458759] : List Int)) := ⟨_, rfl⟩
   replace H : ((q13z.f k t53 y69).bind fun t72 => (some t72)) = some r := by first | (rw [hy69]; with_reducible exact H) | (have H2_ := (Option.bind_some _ _).symm.trans H; rw [hy69]; with_reducible exact H2_) | (have H2_ := (Option.bind_some _ _).symm.trans H; with_reducible exact H2_) | with_reducible exact H | (rw [hy69]; exact H) | exact H
   have Ny69 := Aside0.mk hy69
   clear hy69
   replace H := Option.bind_eq_some_iff.mp H
   obtain ⟨t72, A80, H⟩ := H
   replace H : (some t72) = some r := H
   have A8 := Aside0.mk A80
   clear A80
   obtain rfl := Option.some.inj H
   go_wp2_with (first | ((with_reducible refine gate_dst (N := 24) rfl ?_); (try (refine gate_guard (by rfl) ?_; dsimp only)); refine Kd.R_lit (Kd.int .u32) _ 22 ?hg (N := 24) ?hd (xs := ([1, 2, 3] : List Int)) (inner := [.int .u32 1, .int .u32 2, .int .u32 3]) (ok := fun _ => True) (okp := fun _ => True) ?hr ?hp (fun _ hk => hk) trivial (Below.refl _ _) (Nat.le_refl _) (by simp) ?_; (case hd => rfl); (case hg => rfl); (case hr => first | (go_simp; done) | (go_simp; rfl)); (case hp => exact (Reps.one (show Kd.M (Kd.int .u32) _ _ _ 1 [.int .u32 1] from rfl) (Reps.one (show Kd.M (Kd.int .u32) _ _ _ 2 [.int .u32 2] from rfl) (Reps.one (show Kd.M (Kd.int .u32) _ _ _ 3 [.int .u32 3] from rfl) (Reps.none _ _))))); intro v62 w49 ho50 hb hg_ hnew_; clear hg_ hnew_; (first | rw [← Ny61.out] at ho50 | (simp only [Int.reduceToNat] at ho50; rw [← Ny61.out] at ho50)); have HO63 := Aside0.mk (Kd.R_lower (Kd.R_new' (Kd.R_new' (Kd.R_new' (Kd.R_new' (Kd.R_new' (Kd.R_new' (Kd.R_new' (Kd.R_new' (Kd.R_new' (Kd.R_new' (Kd.R_new' ho50 (Kd.R_lt (rW HO3))) (Kd.R_lt (rW HO6))) (Kd.R_lt (rW HO11))) (Kd.R_lt (rW HO14))) (Kd.R_lt (rW HO22))) (Kd.R_lt (rW HO25))) (Kd.R_lt (rW HO30))) (Kd.R_lt (rW HO33))) (Kd.R_lt (rW HO47))) (Kd.R_lt (rW HO52))) (Kd.R_lt (rW HO55))) (below_size (hbW HB))); replace HO3 := Aside0.mk (Kd.R_elder' (rW HO3) (Kd.R_base ho50) hb); replace HO6 := Aside0.mk (Kd.R_elder' (rW HO6) (Kd.R_base ho50) hb); replace HO11 := Aside0.mk (Kd.R_elder' (rW HO11) (Kd.R_base ho50) hb); replace HO14 := Aside0.mk (Kd.R_elder' (rW HO14) (Kd.R_base ho50) hb); replace HO22 := Aside0.mk (Kd.R_elder' (rW HO22) (Kd.R_base ho50) hb); replace HO25 := Aside0.mk (Kd.R_elder' (rW HO25) (Kd.R_base ho50) hb); replace HO30 := Aside0.mk (Kd.R_elder' (rW HO30) (Kd.R_base ho50) hb); replace HO33 := Aside0.mk (Kd.R_elder' (rW HO33) (Kd.R_base ho50) hb); replace HO44 := Aside0.mk (Kd.N_elder' (by (with_reducible repeat (first | apply Kd.N_alloc | apply Kd.N_drewN | apply Kd.N_drew)); exact (Kd.N_mono (Kd.N_far (p := ⟨gb60, 7, none⟩) (Kd.N_far (p := ⟨gb60, 6, none⟩) (Kd.N_far (p := ⟨gb60, 5, none⟩) (Kd.N_far (p := ⟨gb60, 4, none⟩) (Kd.N_far (p := ⟨gb60, 3, none⟩) (Kd.N_far (p := ⟨gb60, 2, none⟩) (Kd.N_far (p := ⟨gb60, 1, none⟩) (Kd.N_far (p := ⟨gb60, 0, none⟩) (Kd.N_mono HO44.out (fun k_ hk => (⟨hk, hk.2⟩ : _ ∧ k_ ≠ gb60))) (fun _ hk => hk.2) (.int .u32 t48)) (fun _ hk => hk.2) (.int .i64 t49)) (fun _ hk => hk.2) (.slice Ao46 t50.length co46)) (fun _ hk => hk.2) (.slice Ao47 t53.length co47)) (fun _ hk => hk.2) (.int .u32 t56)) (fun _ hk => hk.2) (.int .u32 t57)) (fun _ hk => hk.2) (.int .i64 t58)) (fun _ hk => hk.2) (.int .u32 t59)) (fun _ h_ => h_.1))) (Kd.R_base ho50) hb); replace HO47 := Aside0.mk (Kd.R_elder' (rW HO47) (Kd.R_base ho50) hb); replace HO52 := Aside0.mk (Kd.R_elder' (rW HO52) (Kd.R_base ho50) hb); replace HO55 := Aside0.mk (Kd.R_elder' (rW HO55) (Kd.R_base ho50) hb); replace BK19 := bvB BK19 hb; replace BK38 := bvB BK38 hb; replace BK60 := Aside0.mk (blk_below (g := gb60) (o := .cells #[.int .u32 t48, .int .i64 t49, .slice Ao46 t50.length co46, .slice Ao47 t53.length co47, .int .u32 t56, .int .u32 t57, .int .i64 t58, .int .u32 t59] 30 (0, 0)) (bp8 BK60) hb); replace HB := hbS HB hb; clear hb ho50; obtain ⟨Ao51, co51, eo51⟩ := Kd.R_slice HO63.out; subst eo51) | ((with_reducible refine gate_callee (f := 20) rfl ?_); refine goesL_ (some 25) rfl rfl Try.func20 (by kernel_rfl) rfl #[.slice Ao18 t9.length co18, .slice Ao51 y61.length co51] rfl (by (try simp only [List.map_toArray, List.map_cons, List.map_nil]); first | done | rfl | (simp only [List.length_drop, List.length_take]; rfl)) ?_; (with_reducible refine (q13z.calls k _ _ t9 _ _ y61 true _ ?side1 ?side2 ?side3 ?side4 A4.out).mono ?_); (case side1 => repeat (first | exact (Kd.R_reads' HO11.out).2.2 | (with_reducible refine Kd.C_alloc ?_ _) | (with_reducible refine Kd.C_drewN ?_ _) | (with_reducible refine Kd.C_drew ?_))); (case side2 => exact (Kd.R_reads' HO11.out).2.1); (case side3 => repeat (first | exact (Kd.R_reads' HO63.out).2.2 | (with_reducible refine Kd.C_alloc ?_ _) | (with_reducible refine Kd.C_drewN ?_ _) | (with_reducible refine Kd.C_drew ?_))); (case side4 => exact (Kd.R_reads' HO63.out).2.1); rintro e w' ⟨rfl, ⟨nd, rfl⟩⟩; refine ⟨_, rfl, ?_⟩; obtain ⟨hcz52_0, hcz52_1, hcz52_2, hcz52_3, hcz52_4, hcz52_5, hcz52_6, hcz52_7, hfz52_0, hfz52_1, hfz52_2, hfz52_3, hfz52_4, hfz52_5, hfz52_6, hfz52_7⟩ := bc8 BK38) | ((with_reducible refine gate_dst (N := 29) rfl ?_); (try (refine gate_guard (by rfl) ?_; dsimp only)); refine Kd.R_lit (Kd.int .u32) _ 22 ?hg (N := 29) ?hd (xs := ([3, 4, 5] : List Int)) (inner := [.int .u32 3, .int .u32 4, .int .u32 5]) (ok := fun _ => True) (okp := fun _ => True) ?hr ?hp (fun _ hk => hk) trivial (Below.refl _ _) (Nat.le_refl _) (by simp) ?_; (case hd => rfl); (case hg => rfl); (case hr => first | (go_simp; done) | (go_simp; rfl)); (case hp => exact (Reps.one (show Kd.M (Kd.int .u32) _ _ _ 3 [.int .u32 3] from rfl) (Reps.one (show Kd.M (Kd.int .u32) _ _ _ 4 [.int .u32 4] from rfl) (Reps.one (show Kd.M (Kd.int .u32) _ _ _ 5 [.int .u32 5] from rfl) (Reps.none _ _))))); intro v66 w53 ho54 hb hg_ hnew_; clear hg_ hnew_; (first | rw [← Ny65.out] at ho54 | (simp only [Int.reduceToNat] at ho54; rw [← Ny65.out] at ho54)); have HO67 := Aside0.mk (Kd.R_lower (Kd.R_new' (Kd.R_new' (Kd.R_new' (Kd.R_new' (Kd.R_new' (Kd.R_new' (Kd.R_new' (Kd.R_new' (Kd.R_new' (Kd.R_new' (Kd.R_new' (Kd.R_new' ho54 (Kd.R_lt (rW HO3))) (Kd.R_lt (rW HO6))) (Kd.R_lt (rW HO11))) (Kd.R_lt (rW HO14))) (Kd.R_lt (rW HO22))) (Kd.R_lt (rW HO25))) (Kd.R_lt (rW HO30))) (Kd.R_lt (rW HO33))) (Kd.R_lt (rW HO47))) (Kd.R_lt (rW HO52))) (Kd.R_lt (rW HO55))) (Kd.R_lt (rW HO63))) (below_size (hbW HB))); replace HO3 := Aside0.mk (Kd.R_elder' (rW HO3) (Kd.R_base ho54) hb); replace HO6 := Aside0.mk (Kd.R_elder' (rW HO6) (Kd.R_base ho54) hb); replace HO11 := Aside0.mk (Kd.R_elder' (rW HO11) (Kd.R_base ho54) hb); replace HO14 := Aside0.mk (Kd.R_elder' (rW HO14) (Kd.R_base ho54) hb); replace HO22 := Aside0.mk (Kd.R_elder' (rW HO22) (Kd.R_base ho54) hb); replace HO25 := Aside0.mk (Kd.R_elder' (rW HO25) (Kd.R_base ho54) hb); replace HO30 := Aside0.mk (Kd.R_elder' (rW HO30) (Kd.R_base ho54) hb); replace HO33 := Aside0.mk (Kd.R_elder' (rW HO33) (Kd.R_base ho54) hb); replace HO44 := Aside0.mk (Kd.N_elder' (by (with_reducible repeat (first | apply Kd.N_alloc | apply Kd.N_drewN | apply Kd.N_drew)); exact HO44.out) (Kd.R_base ho54) hb); replace HO47 := Aside0.mk (Kd.R_elder' (rW HO47) (Kd.R_base ho54) hb); replace HO52 := Aside0.mk (Kd.R_elder' (rW HO52) (Kd.R_base ho54) hb); replace HO55 := Aside0.mk (Kd.R_elder' (rW HO55) (Kd.R_base ho54) hb); replace HO63 := Aside0.mk (Kd.R_elder' (rW HO63) (Kd.R_base ho54) hb); replace BK19 := bkB BK19 hb; replace BK38 := bkB BK38 hb; replace BK60 := bkB BK60 hb; replace HB := hbS HB hb; clear hb ho54; obtain ⟨Ao55, co55, eo55⟩ := Kd.R_slice HO67.out; subst eo55) | (go_at_call 20; (with_reducible refine (q13z.calls k _ _ t31 _ _ y65 true _ ?side1 ?side2 ?side3 ?side4 A6.out).mono ?_); (case side1 => repeat (first | exact (Kd.R_reads' HO33.out).2.2 | (with_reducible refine Kd.C_alloc ?_ _) | (with_reducible refine Kd.C_drewN ?_ _) | (with_reducible refine Kd.C_drew ?_))); (case side2 => exact (Kd.R_reads' HO33.out).2.1); (case side3 => repeat (first | exact (Kd.R_reads' HO67.out).2.2 | (with_reducible refine Kd.C_alloc ?_ _) | (with_reducible refine Kd.C_drewN ?_ _) | (with_reducible refine Kd.C_drew ?_))); (case side4 => exact (Kd.R_reads' HO67.out).2.1); rintro e w' ⟨rfl, ⟨nd, rfl⟩⟩; obtain ⟨hcz56_0, hcz56_1, hcz56_2, hcz56_3, hcz56_4, hcz56_5, hcz56_6, hcz56_7, hfz56_0, hfz56_1, hfz56_2, hfz56_3, hfz56_4, hfz56_5, hfz56_6, hfz56_7⟩ := bc8 BK60) | ((with_reducible refine gate_dst (N := 35) rfl ?_); (try (refine gate_guard (by rfl) ?_; dsimp only)); refine Kd.R_lit (Kd.int .u32) _ 22 ?hg (N := 35) ?hd (xs := ([458759] : List Int)) (inner := [.int .u32 458759]) (ok := fun _ => True) (okp := fun _ => True) ?hr ?hp (fun _ hk => hk) trivial (Below.refl _ _) (Nat.le_refl _) (by simp) ?_; (case hd => rfl); (case hg => rfl); (case hr => first | (go_simp; done) | (go_simp; rfl)); (case hp => exact (Reps.one (show Kd.M (Kd.int .u32) _ _ _ 458759 [.int .u32 458759] from rfl) (Reps.none _ _))); intro v70 w57 ho58 hb hg_ hnew_; clear hg_ hnew_; (first | rw [← Ny69.out] at ho58 | (simp only [Int.reduceToNat] at ho58; rw [← Ny69.out] at ho58)); have HO71 := Aside0.mk (Kd.R_lower (Kd.R_new' (Kd.R_new' (Kd.R_new' (Kd.R_new' (Kd.R_new' (Kd.R_new' (Kd.R_new' (Kd.R_new' (Kd.R_new' (Kd.R_new' (Kd.R_new' (Kd.R_new' (Kd.R_new' ho58 (Kd.R_lt (rW HO3))) (Kd.R_lt (rW HO6))) (Kd.R_lt (rW HO11))) (Kd.R_lt (rW HO14))) (Kd.R_lt (rW HO22))) (Kd.R_lt (rW HO25))) (Kd.R_lt (rW HO30))) (Kd.R_lt (rW HO33))) (Kd.R_lt (rW HO47))) (Kd.R_lt (rW HO52))) (Kd.R_lt (rW HO55))) (Kd.R_lt (rW HO63))) (Kd.R_lt (rW HO67))) (below_size (hbW HB))); replace HO3 := Aside0.mk (Kd.R_elder' (rW HO3) (Kd.R_base ho58) hb); replace HO6 := Aside0.mk (Kd.R_elder' (rW HO6) (Kd.R_base ho58) hb); replace HO11 := Aside0.mk (Kd.R_elder' (rW HO11) (Kd.R_base ho58) hb); replace HO14 := Aside0.mk (Kd.R_elder' (rW HO14) (Kd.R_base ho58) hb); replace HO22 := Aside0.mk (Kd.R_elder' (rW HO22) (Kd.R_base ho58) hb); replace HO25 := Aside0.mk (Kd.R_elder' (rW HO25) (Kd.R_base ho58) hb); replace HO30 := Aside0.mk (Kd.R_elder' (rW HO30) (Kd.R_base ho58) hb); replace HO33 := Aside0.mk (Kd.R_elder' (rW HO33) (Kd.R_base ho58) hb); replace HO44 := Aside0.mk (Kd.N_elder' (by (with_reducible repeat (first | apply Kd.N_alloc | apply Kd.N_drewN | apply Kd.N_drew)); exact HO44.out) (Kd.R_base ho58) hb); replace HO47 := Aside0.mk (Kd.R_elder' (rW HO47) (Kd.R_base ho58) hb); replace HO52 := Aside0.mk (Kd.R_elder' (rW HO52) (Kd.R_base ho58) hb); replace HO55 := Aside0.mk (Kd.R_elder' (rW HO55) (Kd.R_base ho58) hb); replace HO63 := Aside0.mk (Kd.R_elder' (rW HO63) (Kd.R_base ho58) hb); replace HO67 := Aside0.mk (Kd.R_elder' (rW HO67) (Kd.R_base ho58) hb); replace BK19 := bkB BK19 hb; replace BK38 := bkB BK38 hb; replace BK60 := bkB BK60 hb; replace HB := hbS HB hb; clear hb ho58; obtain ⟨Ao59, co59, eo59⟩ := Kd.R_slice HO71.out; subst eo59) | (go_at_call 20; (with_reducible refine (q13z.calls k _ _ t53 _ _ y69 t72 _ ?side1 ?side2 ?side3 ?side4 A8.out).mono ?_); (case side1 => repeat (first | exact (Kd.R_reads' HO55.out).2.2 | (with_reducible refine Kd.C_alloc ?_ _) | (with_reducible refine Kd.C_drewN ?_ _) | (with_reducible refine Kd.C_drew ?_))); (case side2 => exact (Kd.R_reads' HO55.out).2.1); (case side3 => repeat (first | exact (Kd.R_reads' HO71.out).2.2 | (with_reducible refine Kd.C_alloc ?_ _) | (with_reducible refine Kd.C_drewN ?_ _) | (with_reducible refine Kd.C_drew ?_))); (case side4 => exact (Kd.R_reads' HO71.out).2.1); rintro e w' ⟨rfl, ⟨nd, rfl⟩⟩))
   go_ret
   exact ⟨by first | rfl | (simp [errW_none, errW_some] <;> rfl) | (simp [*, errW_none, errW_some] <;> rfl), hbW HB⟩
  ·
   replace c7 := Bool.eq_false_iff.mpr c7
   subst c7
   have H1 : (some false) = some r := by rw [if_neg (show ¬ (false = true) by decide)] at H; exact H
   clear H
   have H := H1
   clear H1
   obtain rfl := Option.some.inj H
   go_wp2_with (first | ((with_reducible refine gate_dst (N := 24) rfl ?_); (try (refine gate_guard (by rfl) ?_; dsimp only)); refine Kd.R_lit (Kd.int .u32) _ 22 ?hg (N := 24) ?hd (xs := ([1, 2, 3] : List Int)) (inner := [.int .u32 1, .int .u32 2, .int .u32 3]) (ok := fun _ => True) (okp := fun _ => True) ?hr ?hp (fun _ hk => hk) trivial (Below.refl _ _) (Nat.le_refl _) (by simp) ?_; (case hd => rfl); (case hg => rfl); (case hr => first | (go_simp; done) | (go_simp; rfl)); (case hp => exact (Reps.one (show Kd.M (Kd.int .u32) _ _ _ 1 [.int .u32 1] from rfl) (Reps.one (show Kd.M (Kd.int .u32) _ _ _ 2 [.int .u32 2] from rfl) (Reps.one (show Kd.M (Kd.int .u32) _ _ _ 3 [.int .u32 3] from rfl) (Reps.none _ _))))); intro v62 w100 ho101 hb hg_ hnew_; clear hg_ hnew_; (first | rw [← Ny61.out] at ho101 | (simp only [Int.reduceToNat] at ho101; rw [← Ny61.out] at ho101)); have HO63 := Aside0.mk (Kd.R_lower (Kd.R_new' (Kd.R_new' (Kd.R_new' (Kd.R_new' (Kd.R_new' (Kd.R_new' (Kd.R_new' (Kd.R_new' (Kd.R_new' (Kd.R_new' (Kd.R_new' ho101 (Kd.R_lt (rW HO3))) (Kd.R_lt (rW HO6))) (Kd.R_lt (rW HO11))) (Kd.R_lt (rW HO14))) (Kd.R_lt (rW HO22))) (Kd.R_lt (rW HO25))) (Kd.R_lt (rW HO30))) (Kd.R_lt (rW HO33))) (Kd.R_lt (rW HO47))) (Kd.R_lt (rW HO52))) (Kd.R_lt (rW HO55))) (below_size (hbW HB))); replace HO3 := Aside0.mk (Kd.R_elder' (rW HO3) (Kd.R_base ho101) hb); replace HO6 := Aside0.mk (Kd.R_elder' (rW HO6) (Kd.R_base ho101) hb); replace HO11 := Aside0.mk (Kd.R_elder' (rW HO11) (Kd.R_base ho101) hb); replace HO14 := Aside0.mk (Kd.R_elder' (rW HO14) (Kd.R_base ho101) hb); replace HO22 := Aside0.mk (Kd.R_elder' (rW HO22) (Kd.R_base ho101) hb); replace HO25 := Aside0.mk (Kd.R_elder' (rW HO25) (Kd.R_base ho101) hb); replace HO30 := Aside0.mk (Kd.R_elder' (rW HO30) (Kd.R_base ho101) hb); replace HO33 := Aside0.mk (Kd.R_elder' (rW HO33) (Kd.R_base ho101) hb); replace HO44 := Aside0.mk (Kd.N_elder' (by (with_reducible repeat (first | apply Kd.N_alloc | apply Kd.N_drewN | apply Kd.N_drew)); exact (Kd.N_mono (Kd.N_far (p := ⟨gb60, 7, none⟩) (Kd.N_far (p := ⟨gb60, 6, none⟩) (Kd.N_far (p := ⟨gb60, 5, none⟩) (Kd.N_far (p := ⟨gb60, 4, none⟩) (Kd.N_far (p := ⟨gb60, 3, none⟩) (Kd.N_far (p := ⟨gb60, 2, none⟩) (Kd.N_far (p := ⟨gb60, 1, none⟩) (Kd.N_far (p := ⟨gb60, 0, none⟩) (Kd.N_mono HO44.out (fun k_ hk => (⟨hk, hk.2⟩ : _ ∧ k_ ≠ gb60))) (fun _ hk => hk.2) (.int .u32 t48)) (fun _ hk => hk.2) (.int .i64 t49)) (fun _ hk => hk.2) (.slice Ao46 t50.length co46)) (fun _ hk => hk.2) (.slice Ao47 t53.length co47)) (fun _ hk => hk.2) (.int .u32 t56)) (fun _ hk => hk.2) (.int .u32 t57)) (fun _ hk => hk.2) (.int .i64 t58)) (fun _ hk => hk.2) (.int .u32 t59)) (fun _ h_ => h_.1))) (Kd.R_base ho101) hb); replace HO47 := Aside0.mk (Kd.R_elder' (rW HO47) (Kd.R_base ho101) hb); replace HO52 := Aside0.mk (Kd.R_elder' (rW HO52) (Kd.R_base ho101) hb); replace HO55 := Aside0.mk (Kd.R_elder' (rW HO55) (Kd.R_base ho101) hb); replace BK19 := bvB BK19 hb; replace BK38 := bvB BK38 hb; replace BK60 := Aside0.mk (blk_below (g := gb60) (o := .cells #[.int .u32 t48, .int .i64 t49, .slice Ao46 t50.length co46, .slice Ao47 t53.length co47, .int .u32 t56, .int .u32 t57, .int .i64 t58, .int .u32 t59] 30 (0, 0)) (bp8 BK60) hb); replace HB := hbS HB hb; clear hb ho101; obtain ⟨Ao102, co102, eo102⟩ := Kd.R_slice HO63.out; subst eo102) | ((with_reducible refine gate_callee (f := 20) rfl ?_); refine goesL_ (some 25) rfl rfl Try.func20 (by kernel_rfl) rfl #[.slice Ao18 t9.length co18, .slice Ao102 y61.length co102] rfl (by (try simp only [List.map_toArray, List.map_cons, List.map_nil]); first | done | rfl | (simp only [List.length_drop, List.length_take]; rfl)) ?_; (with_reducible refine (q13z.calls k _ _ t9 _ _ y61 true _ ?side1 ?side2 ?side3 ?side4 A4.out).mono ?_); (case side1 => repeat (first | exact (Kd.R_reads' HO11.out).2.2 | (with_reducible refine Kd.C_alloc ?_ _) | (with_reducible refine Kd.C_drewN ?_ _) | (with_reducible refine Kd.C_drew ?_))); (case side2 => exact (Kd.R_reads' HO11.out).2.1); (case side3 => repeat (first | exact (Kd.R_reads' HO63.out).2.2 | (with_reducible refine Kd.C_alloc ?_ _) | (with_reducible refine Kd.C_drewN ?_ _) | (with_reducible refine Kd.C_drew ?_))); (case side4 => exact (Kd.R_reads' HO63.out).2.1); rintro e w' ⟨rfl, ⟨nd, rfl⟩⟩; refine ⟨_, rfl, ?_⟩; obtain ⟨hcz103_0, hcz103_1, hcz103_2, hcz103_3, hcz103_4, hcz103_5, hcz103_6, hcz103_7, hfz103_0, hfz103_1, hfz103_2, hfz103_3, hfz103_4, hfz103_5, hfz103_6, hfz103_7⟩ := bc8 BK38) | ((with_reducible refine gate_dst (N := 29) rfl ?_); (try (refine gate_guard (by rfl) ?_; dsimp only)); refine Kd.R_lit (Kd.int .u32) _ 22 ?hg (N := 29) ?hd (xs := ([3, 4, 5] : List Int)) (inner := [.int .u32 3, .int .u32 4, .int .u32 5]) (ok := fun _ => True) (okp := fun _ => True) ?hr ?hp (fun _ hk => hk) trivial (Below.refl _ _) (Nat.le_refl _) (by simp) ?_; (case hd => rfl); (case hg => rfl); (case hr => first | (go_simp; done) | (go_simp; rfl)); (case hp => exact (Reps.one (show Kd.M (Kd.int .u32) _ _ _ 3 [.int .u32 3] from rfl) (Reps.one (show Kd.M (Kd.int .u32) _ _ _ 4 [.int .u32 4] from rfl) (Reps.one (show Kd.M (Kd.int .u32) _ _ _ 5 [.int .u32 5] from rfl) (Reps.none _ _))))); intro v66 w104 ho105 hb hg_ hnew_; clear hg_ hnew_; (first | rw [← Ny65.out] at ho105 | (simp only [Int.reduceToNat] at ho105; rw [← Ny65.out] at ho105)); have HO67 := Aside0.mk (Kd.R_lower (Kd.R_new' (Kd.R_new' (Kd.R_new' (Kd.R_new' (Kd.R_new' (Kd.R_new' (Kd.R_new' (Kd.R_new' (Kd.R_new' (Kd.R_new' (Kd.R_new' (Kd.R_new' ho105 (Kd.R_lt (rW HO3))) (Kd.R_lt (rW HO6))) (Kd.R_lt (rW HO11))) (Kd.R_lt (rW HO14))) (Kd.R_lt (rW HO22))) (Kd.R_lt (rW HO25))) (Kd.R_lt (rW HO30))) (Kd.R_lt (rW HO33))) (Kd.R_lt (rW HO47))) (Kd.R_lt (rW HO52))) (Kd.R_lt (rW HO55))) (Kd.R_lt (rW HO63))) (below_size (hbW HB))); replace HO3 := Aside0.mk (Kd.R_elder' (rW HO3) (Kd.R_base ho105) hb); replace HO6 := Aside0.mk (Kd.R_elder' (rW HO6) (Kd.R_base ho105) hb); replace HO11 := Aside0.mk (Kd.R_elder' (rW HO11) (Kd.R_base ho105) hb); replace HO14 := Aside0.mk (Kd.R_elder' (rW HO14) (Kd.R_base ho105) hb); replace HO22 := Aside0.mk (Kd.R_elder' (rW HO22) (Kd.R_base ho105) hb); replace HO25 := Aside0.mk (Kd.R_elder' (rW HO25) (Kd.R_base ho105) hb); replace HO30 := Aside0.mk (Kd.R_elder' (rW HO30) (Kd.R_base ho105) hb); replace HO33 := Aside0.mk (Kd.R_elder' (rW HO33) (Kd.R_base ho105) hb); replace HO44 := Aside0.mk (Kd.N_elder' (by (with_reducible repeat (first | apply Kd.N_alloc | apply Kd.N_drewN | apply Kd.N_drew)); exact HO44.out) (Kd.R_base ho105) hb); replace HO47 := Aside0.mk (Kd.R_elder' (rW HO47) (Kd.R_base ho105) hb); replace HO52 := Aside0.mk (Kd.R_elder' (rW HO52) (Kd.R_base ho105) hb); replace HO55 := Aside0.mk (Kd.R_elder' (rW HO55) (Kd.R_base ho105) hb); replace HO63 := Aside0.mk (Kd.R_elder' (rW HO63) (Kd.R_base ho105) hb); replace BK19 := bkB BK19 hb; replace BK38 := bkB BK38 hb; replace BK60 := bkB BK60 hb; replace HB := hbS HB hb; clear hb ho105; obtain ⟨Ao106, co106, eo106⟩ := Kd.R_slice HO67.out; subst eo106) | (go_at_call 20; (with_reducible refine (q13z.calls k _ _ t31 _ _ y65 false _ ?side1 ?side2 ?side3 ?side4 A6.out).mono ?_); (case side1 => repeat (first | exact (Kd.R_reads' HO33.out).2.2 | (with_reducible refine Kd.C_alloc ?_ _) | (with_reducible refine Kd.C_drewN ?_ _) | (with_reducible refine Kd.C_drew ?_))); (case side2 => exact (Kd.R_reads' HO33.out).2.1); (case side3 => repeat (first | exact (Kd.R_reads' HO67.out).2.2 | (with_reducible refine Kd.C_alloc ?_ _) | (with_reducible refine Kd.C_drewN ?_ _) | (with_reducible refine Kd.C_drew ?_))); (case side4 => exact (Kd.R_reads' HO67.out).2.1); rintro e w' ⟨rfl, ⟨nd, rfl⟩⟩))
   go_ret
   exact ⟨by first | rfl | (simp [errW_none, errW_some] <;> rfl) | (simp [*, errW_none, errW_some] <;> rfl), hbW HB⟩
 ·
  replace c5 := Bool.eq_false_iff.mpr c5
  subst c5
  have H1 : (some false) = some r := by rw [if_neg (show ¬ (false = true) by decide)] at H; exact H
  clear H
  have H := H1
  clear H1
  obtain rfl := Option.some.inj H
  go_wp2_with (first | ((with_reducible refine gate_dst (N := 24) rfl ?_); (try (refine gate_guard (by rfl) ?_; dsimp only)); refine Kd.R_lit (Kd.int .u32) _ 22 ?hg (N := 24) ?hd (xs := ([1, 2, 3] : List Int)) (inner := [.int .u32 1, .int .u32 2, .int .u32 3]) (ok := fun _ => True) (okp := fun _ => True) ?hr ?hp (fun _ hk => hk) trivial (Below.refl _ _) (Nat.le_refl _) (by simp) ?_; (case hd => rfl); (case hg => rfl); (case hr => first | (go_simp; done) | (go_simp; rfl)); (case hp => exact (Reps.one (show Kd.M (Kd.int .u32) _ _ _ 1 [.int .u32 1] from rfl) (Reps.one (show Kd.M (Kd.int .u32) _ _ _ 2 [.int .u32 2] from rfl) (Reps.one (show Kd.M (Kd.int .u32) _ _ _ 3 [.int .u32 3] from rfl) (Reps.none _ _))))); intro v62 w147 ho148 hb hg_ hnew_; clear hg_ hnew_; (first | rw [← Ny61.out] at ho148 | (simp only [Int.reduceToNat] at ho148; rw [← Ny61.out] at ho148)); have HO63 := Aside0.mk (Kd.R_lower (Kd.R_new' (Kd.R_new' (Kd.R_new' (Kd.R_new' (Kd.R_new' (Kd.R_new' (Kd.R_new' (Kd.R_new' (Kd.R_new' (Kd.R_new' (Kd.R_new' ho148 (Kd.R_lt (rW HO3))) (Kd.R_lt (rW HO6))) (Kd.R_lt (rW HO11))) (Kd.R_lt (rW HO14))) (Kd.R_lt (rW HO22))) (Kd.R_lt (rW HO25))) (Kd.R_lt (rW HO30))) (Kd.R_lt (rW HO33))) (Kd.R_lt (rW HO47))) (Kd.R_lt (rW HO52))) (Kd.R_lt (rW HO55))) (below_size (hbW HB))); replace HO3 := Aside0.mk (Kd.R_elder' (rW HO3) (Kd.R_base ho148) hb); replace HO6 := Aside0.mk (Kd.R_elder' (rW HO6) (Kd.R_base ho148) hb); replace HO11 := Aside0.mk (Kd.R_elder' (rW HO11) (Kd.R_base ho148) hb); replace HO14 := Aside0.mk (Kd.R_elder' (rW HO14) (Kd.R_base ho148) hb); replace HO22 := Aside0.mk (Kd.R_elder' (rW HO22) (Kd.R_base ho148) hb); replace HO25 := Aside0.mk (Kd.R_elder' (rW HO25) (Kd.R_base ho148) hb); replace HO30 := Aside0.mk (Kd.R_elder' (rW HO30) (Kd.R_base ho148) hb); replace HO33 := Aside0.mk (Kd.R_elder' (rW HO33) (Kd.R_base ho148) hb); replace HO44 := Aside0.mk (Kd.N_elder' (by (with_reducible repeat (first | apply Kd.N_alloc | apply Kd.N_drewN | apply Kd.N_drew)); exact (Kd.N_mono (Kd.N_far (p := ⟨gb60, 7, none⟩) (Kd.N_far (p := ⟨gb60, 6, none⟩) (Kd.N_far (p := ⟨gb60, 5, none⟩) (Kd.N_far (p := ⟨gb60, 4, none⟩) (Kd.N_far (p := ⟨gb60, 3, none⟩) (Kd.N_far (p := ⟨gb60, 2, none⟩) (Kd.N_far (p := ⟨gb60, 1, none⟩) (Kd.N_far (p := ⟨gb60, 0, none⟩) (Kd.N_mono HO44.out (fun k_ hk => (⟨hk, hk.2⟩ : _ ∧ k_ ≠ gb60))) (fun _ hk => hk.2) (.int .u32 t48)) (fun _ hk => hk.2) (.int .i64 t49)) (fun _ hk => hk.2) (.slice Ao46 t50.length co46)) (fun _ hk => hk.2) (.slice Ao47 t53.length co47)) (fun _ hk => hk.2) (.int .u32 t56)) (fun _ hk => hk.2) (.int .u32 t57)) (fun _ hk => hk.2) (.int .i64 t58)) (fun _ hk => hk.2) (.int .u32 t59)) (fun _ h_ => h_.1))) (Kd.R_base ho148) hb); replace HO47 := Aside0.mk (Kd.R_elder' (rW HO47) (Kd.R_base ho148) hb); replace HO52 := Aside0.mk (Kd.R_elder' (rW HO52) (Kd.R_base ho148) hb); replace HO55 := Aside0.mk (Kd.R_elder' (rW HO55) (Kd.R_base ho148) hb); replace BK19 := bvB BK19 hb; replace BK38 := bvB BK38 hb; replace BK60 := Aside0.mk (blk_below (g := gb60) (o := .cells #[.int .u32 t48, .int .i64 t49, .slice Ao46 t50.length co46, .slice Ao47 t53.length co47, .int .u32 t56, .int .u32 t57, .int .i64 t58, .int .u32 t59] 30 (0, 0)) (bp8 BK60) hb); replace HB := hbS HB hb; clear hb ho148; obtain ⟨Ao149, co149, eo149⟩ := Kd.R_slice HO63.out; subst eo149) | ((with_reducible refine gate_callee (f := 20) rfl ?_); refine goesL_ (some 25) rfl rfl Try.func20 (by kernel_rfl) rfl #[.slice Ao18 t9.length co18, .slice Ao149 y61.length co149] rfl (by (try simp only [List.map_toArray, List.map_cons, List.map_nil]); first | done | rfl | (simp only [List.length_drop, List.length_take]; rfl)) ?_; (with_reducible refine (q13z.calls k _ _ t9 _ _ y61 false _ ?side1 ?side2 ?side3 ?side4 A4.out).mono ?_); (case side1 => repeat (first | exact (Kd.R_reads' HO11.out).2.2 | (with_reducible refine Kd.C_alloc ?_ _) | (with_reducible refine Kd.C_drewN ?_ _) | (with_reducible refine Kd.C_drew ?_))); (case side2 => exact (Kd.R_reads' HO11.out).2.1); (case side3 => repeat (first | exact (Kd.R_reads' HO63.out).2.2 | (with_reducible refine Kd.C_alloc ?_ _) | (with_reducible refine Kd.C_drewN ?_ _) | (with_reducible refine Kd.C_drew ?_))); (case side4 => exact (Kd.R_reads' HO63.out).2.1); rintro e w' ⟨rfl, ⟨nd, rfl⟩⟩; refine ⟨_, rfl, ?_⟩))
  go_ret
  exact ⟨by first | rfl | (simp [errW_none, errW_some] <;> rfl) | (simp [*, errW_none, errW_some] <;> rfl), hbW HB⟩

end Go.Proofs.Ytgelpccjdndfoaa.P

namespace Go.Proofs.Ytgelpccjdndfoaa.P
open Go.RowKit Go.Proofs.YtgelpccjdndfoaaW.PrintWords Go.Proofs.YtgelpccjdndfoaaW.PrintLast Go.Proofs.YtgelpccjdndfoaaW.PrintMore
attribute [local go_sem] max2_int min2_int max_two min_two max_three min_three max_four min_four
set_option linter.unusedVariables false
set_option linter.unusedSimpArgs false

/-! ### dragomanref05_Size: function 40 -/
mutual
def q15z.l0 : Nat → Int → Int → List (S74) → Int → Int → Option (Int × Int)
 | 0, _, _, _, _, _ => none
 | k + 1, x4, x5, x11, x12, x13 => if x13 < x12 then (if 0 ≤ x13 then (if x13 < (x11.length : Int) then ((q15z.f k ((rd_T74 x11 x13).f0) ((rd_T74 x11 x13).f1) ((rd_T74 x11 x13).f2)).bind fun bt4 => (q15z.l0 k (mn (wrap64 (x4 + bt4.1)) 1000000) (mx x5 bt4.2) x11 x12 (wrap64 (x13 + 1)))) else (none)) else (none)) else (some (x4, wrap64 (x5 + 1)))
def q15z.f : Nat → Int → List (S152) → List (S74) → Option (Int × Int)
 | 0, _, _, _ => none
 | k + 1, a0_0, l0_1, l0_2 => q15z.l0 k 1 0 l0_2 (l0_2.length : Int) 0
end
theorem q15z.mono_l : ∀ k, (∀ y0 y1 y2, LeO (q15z.f k y0 y1 y2) (q15z.f (k + 1) y0 y1 y2)) ∧ (∀ y0 y1 y2 y3 y4, LeO (q15z.l0 k y0 y1 y2 y3 y4) (q15z.l0 (k + 1) y0 y1 y2 y3 y4))
 | 0 => ⟨fun _ _ _ r h => by simp [q15z.f] at h, fun _ _ _ _ _ r h => by simp [q15z.l0] at h⟩
 | k + 1 => by
  obtain ⟨ih0, ih1⟩ := q15z.mono_l k
  refine ⟨?_, ?_⟩
  ·
   intro y0 y1 y2
   unfold q15z.f
   repeat' first
   | (with_reducible exact ih0 _ _ _)
   | (with_reducible exact ih1 _ _ _ _ _)
   | (with_reducible exact LeO.refl _)
   | (with_reducible exact LeO.none _)
   | (with_reducible refine LeO.ite ?_ ?_)
   | (with_reducible refine LeO.bind ?_ (fun _ => ?_))
   | exact ih0 _ _ _
   | exact ih1 _ _ _ _ _
   | exact LeO.none _
   | refine LeO.ite ?_ ?_
   | refine LeO.bind ?_ (fun _ => ?_)
  ·
   intro y0 y1 y2 y3 y4
   unfold q15z.l0
   repeat' first
   | (with_reducible exact ih0 _ _ _)
   | (with_reducible exact ih1 _ _ _ _ _)
   | (with_reducible exact LeO.refl _)
   | (with_reducible exact LeO.none _)
   | (with_reducible refine LeO.ite ?_ ?_)
   | (with_reducible refine LeO.bind ?_ (fun _ => ?_))
   | exact ih0 _ _ _
   | exact ih1 _ _ _ _ _
   | exact LeO.none _
   | refine LeO.ite ?_ ?_
   | refine LeO.bind ?_ (fun _ => ?_)
theorem q15z.mono : ∀ a0 a1 a2 k, LeO (q15z.f k a0 a1 a2) (q15z.f (k + 1) a0 a1 a2) := by
 intro a0 a1 a2 k
 obtain ⟨ih0, ih1⟩ := q15z.mono_l k
 exact ih0 a0 a1 a2
set_option maxHeartbeats 8000000 in
set_option maxRecDepth 100000 in
theorem q15z.calls (k : Nat) : ∀ (a0_0 : Int) (A0_1 : Option Addr) (c0_1 : Nat) (l0_1 : List (S152)) (A0_2 : Option Addr) (c0_2 : Nat) (l0_2 : List (S74)) (r1 : Int) (r2 : Int) (w : World) (hr0_1 : Kd.C k152 w A0_1 l0_1.length l0_1) (hc0_1 : l0_1.length ≤ c0_1) (hr0_2 : Kd.C k74 w A0_2 l0_2.length l0_2) (hc0_2 : l0_2.length ≤ c0_2) (h : q15z.f k a0_0 l0_1 l0_2 = some (r1, r2)),
  Calls Try.prog 40 #[.agg #[.int .i64 a0_0, .slice A0_1 l0_1.length c0_1, .slice A0_2 l0_2.length c0_2]] w fun e w' => e = .returned (.tuple #[.int .i64 r1, .int .i64 r2]) ∧ Below w.heap.size w w' := by
 induction k using Nat.strongRecOn with
 | _ k ih =>
 intro a0_0 A0_1 c0_1 l0_1 A0_2 c0_2 l0_2 r1 r2 w hr0_1 hc0_1 hr0_2 hc0_2 h
 cases k with
 | zero => exact absurd h (by simp [q15z.f])
 | succ k =>
 simp only [q15z.f] at h
 have hu74 := Try.underlying74
 have HR0_1 := Aside0.mk hr0_1
 have HC0_1 := Aside0.mk hc0_1
 clear hr0_1 hc0_1
 have HR0_2 := Aside0.mk hr0_2
 have HC0_2 := Aside0.mk hc0_2
 clear hr0_2 hc0_2
 have HB := Aside0.mk (Below.refl w.heap.size w)
 have H : (q15z.l0 k 1 0 l0_2 (l0_2.length : Int) 0) = some (r1, r2) := h
 clear h
 have H' := Aside0.mk H
 clear H
 go_enter Try.func40, Try.ntmps40
 go_wp2_with (first | ((with_reducible refine gate_dst (N := 1) rfl ?_); refine box_event ?hg (N := 1) ?hd (cs := #[.int .i64 a0_0, .slice A0_1 l0_1.length c0_1, .slice A0_2 l0_2.length c0_2]) (t := 74) ?hr ?_; (case hd => rfl); (case hg => rfl); (case hr => first | (go_simp; done) | (go_simp; rfl)); intro gb1 hg w2 hbox hb; have BK1 := Aside0.mk (hbox); have GW1 := Aside0.mk ((by rw [hg]; exact (below_size (hbW HB)) : w.heap.size ≤ gb1)); have GE1 := Aside0.mk ((by rw [hg]; exact (below_size (hbW HB)) : w.heap.size ≤ gb1)); replace HB := hbS HB hb; clear hb hbox hg; obtain ⟨hcz3_0, hcz3_1, hcz3_2, hfz3_0, hfz3_1, hfz3_2⟩ := bc3 BK1))
 go_loopg [4, 5, 13] k (fun kq v4 v5 v13 w' => ∃ (x4_1 : Int) (x5_1 : Int) (x13_1 : Int), v4 = .int .i64 x4_1 ∧ v5 = .int .i64 x5_1 ∧ v13 = .int .i64 x13_1 ∧ Aside0 (q15z.l0 kq x4_1 x5_1 l0_2 (l0_2.length : Int) x13_1 = some (r1, r2)) ∧ Aside0 (kq ≤ k) ∧ Aside0 (w'.heap[gb1]? = some (.cells #[.int .i64 a0_0, (.slice A0_1 l0_1.length c0_1), (.slice A0_2 l0_2.length c0_2)] 74 (0, 0))) ∧ Aside0 (Below w.heap.size w w'))
 case atStart => exact ⟨(1), (0), (0), (by first | rfl | (simp; done) | (simp [*]; done)), (by first | rfl | (simp; done) | (simp [*]; done)), (by first | rfl | (simp; done) | (simp [*]; done)), H', ⟨Nat.le_refl _⟩, ⟨by (with_reducible repeat (first | refine blk_drewN ?_ _ | refine blk_drew ?_ | refine blk_alloc ?_ _)); exact BK1.out⟩, ⟨hbW HB⟩⟩
 case round =>
  clear H'
  try clear p2
  try clear hcz3_0
  try clear hcz3_1
  try clear hcz3_2
  try clear hfz3_0
  try clear hfz3_1
  try clear hfz3_2
  obtain ⟨x4_1, x5_1, x13_1, rfl, rfl, rfl, HA, HK1, BK1, HB⟩ := hrel
  cases gk with
  | zero => exact absurd HA.out (by simp [q15z.l0])
  | succ k1 =>
   have H := HA.out
   clear HA
   simp only [q15z.l0] at H
   by_cases c4 : x13_1 < (l0_2.length : Int)
   ·
    rw [if_pos c4] at H
    have c4b0 : decide (x13_1 < (l0_2.length : Int)) = true := decide_eq_true c4
    clear c4
    by_cases c5 : 0 ≤ x13_1
    ·
     rw [if_pos c5] at H
     have c5b0 : decide (0 ≤ x13_1) = true := decide_eq_true c5
     clear c5
     by_cases c6 : x13_1 < (l0_2.length : Int)
     ·
      rw [if_pos c6] at H
      have c6b0 : decide (x13_1 < (l0_2.length : Int)) = true := decide_eq_true c6
      clear c6
      replace H := Option.bind_eq_some_iff.mp H
      obtain ⟨⟨t4, t5⟩, A70, H⟩ := H
      replace H : (q15z.l0 k1 (mn (wrap64 (x4_1 + t4)) 1000000) (mx x5_1 t5) l0_2 (l0_2.length : Int) (wrap64 (x13_1 + 1))) = some (r1, r2) := H
      have A7 := Aside0.mk A70
      clear A70
      obtain ⟨ji8, hji8⟩ : ∃ j_ : Int, (mn (wrap64 (x4_1 + t4)) 1000000) = j_ := ⟨_, rfl⟩
      replace H : (q15z.l0 k1 ji8 (mx x5_1 t5) l0_2 (l0_2.length : Int) (wrap64 (x13_1 + 1))) = some (r1, r2) := by first | (rw [hji8] at H; exact H) | (simp only [hji8] at H ⊢; exact H)
      (try rw [hji8] at A7)
      have hji8_ : (if 1000000 < (wrap64 (x4_1 + t4)) then 1000000 else (wrap64 (x4_1 + t4))) = ji8 := hji8
      obtain ⟨ji9, hji9⟩ : ∃ j_ : Int, (mx x5_1 t5) = j_ := ⟨_, rfl⟩
      replace H : (q15z.l0 k1 ji8 ji9 l0_2 (l0_2.length : Int) (wrap64 (x13_1 + 1))) = some (r1, r2) := by first | (rw [hji9] at H; exact H) | (simp only [hji9] at H ⊢; exact H)
      (try rw [hji9] at A7)
      have hji9_ : (if x5_1 < t5 then t5 else x5_1) = ji9 := hji9
      have H' := Aside0.mk H
      clear H
      have p2 : 0 ≤ (x13_1 : Int) := of_decide_eq_true (by first | (with_reducible assumption) | assumption)
      have q2 : x13_1 < (l0_2.length : Int) := of_decide_eq_true (by first | (with_reducible assumption) | assumption)
      obtain ⟨ad2, A2_1, c2_1, A2_2, c2_2, e2, hx2_0, hx2_1, hx2_2, hl2_1, hi2_1, hl2_2, hi2_2⟩ := at_T74 HR0_2.out x13_1 p2 q2
      cases e2
      replace hx2_0 := (HB.out.cell (World.block_lt_of_cell? w _ hx2_0)).trans hx2_0
      replace hx2_1 := (HB.out.cell (World.block_lt_of_cell? w _ hx2_1)).trans hx2_1
      replace hx2_2 := (HB.out.cell (World.block_lt_of_cell? w _ hx2_2)).trans hx2_2
      have HR2_1 := Aside0.mk hi2_1
      have HC2_1 := Aside0.mk hl2_1
      clear hi2_1 hl2_1
      have HR2_2 := Aside0.mk hi2_2
      have HC2_2 := Aside0.mk hl2_2
      clear hi2_2 hl2_2
      replace p2 := eq_true p2
      replace q2 := eq_true q2
      go_wp2_with (first | ((with_reducible refine gate_dst (N := 7) rfl ?_); refine box_event ?hg (N := 7) ?hd (cs := #[.int .i64 0, .slice none 0 0, .slice none 0 0]) (t := 74) ?hr ?_; (case hd => rfl); (case hg => rfl); (case hr => first | (go_simp; done) | (go_simp; rfl)); intro gb3 hg w10 hbox hb; have BK3 := Aside0.mk (hbox); have GW3 := Aside0.mk ((by rw [hg]; exact (below_size (hbW HB)) : w.heap.size ≤ gb3)); have GE3 := Aside0.mk ((by rw [hg]; exact (below_size (hbW HB)) : w.heap.size ≤ gb3)); have NB1_3 := Aside0.mk ((by rw [hg]; exact Nat.ne_of_lt (blk_lt (bkW BK1)) : gb1 ≠ gb3)); have NB3_1 := Aside0.mk ((by rw [hg]; exact Nat.ne_of_gt (blk_lt (bkW BK1)) : gb3 ≠ gb1)); replace BK1 := bkB BK1 hb; replace HB := hbS HB hb; clear hb hbox hg; have hnb11 := NB3_1.out; have hnc11 := NB1_3.out; obtain ⟨hcz12_0, hcz12_1, hcz12_2, hfz12_0, hfz12_1, hfz12_2⟩ := bc3 BK3) | ((with_reducible refine gate_callee (f := 40) rfl ?_); refine goesL_ (some 19) rfl rfl Try.func40 (by kernel_rfl) rfl #[.agg #[.int .i64 ((rd_T74 l0_2 x13_1).f0), .slice A2_1 ((rd_T74 l0_2 x13_1).f1).length c2_1, .slice A2_2 ((rd_T74 l0_2 x13_1).f2).length c2_2]] rfl (by (try simp only [List.map_toArray, List.map_cons, List.map_nil]); first | done | rfl | (simp only [List.length_drop, List.length_take]; rfl)) ?_; (with_reducible refine (ih k1 (by have := HK1.out; omega) ((rd_T74 l0_2 x13_1).f0) _ _ ((rd_T74 l0_2 x13_1).f1) _ _ ((rd_T74 l0_2 x13_1).f2) t4 t5 _ ?side1 ?side2 ?side3 ?side4 A7.out).mono ?_); (case side1 => exact Kd.C_below HR2_1.out (hbW HB)); (case side2 => exact HC2_1.out); (case side3 => exact Kd.C_below HR2_2.out (hbW HB)); (case side4 => exact HC2_2.out); rintro e w13 ⟨rfl, hb⟩; refine ⟨_, rfl, ?_⟩; replace BK1 := bvB BK1 hb; replace BK3 := Aside0.mk (blk_below (g := gb3) (o := .cells #[.int .i64 ((rd_T74 l0_2 x13_1).f0), .slice A2_1 ((rd_T74 l0_2 x13_1).f1).length c2_1, .slice A2_2 ((rd_T74 l0_2 x13_1).f2).length c2_2] 74 (0, 0)) (bp3 BK3) hb); replace HB := hbS HB hb; (try clear hb)))
      go_roundg k1
      case measure => have := HK1.out; omega
      case rel => exact ⟨(ji8), (ji9), (wrap64 (x13_1 + 1)), (by first | rfl | (simp; done) | (simp only [← hji8] <;> (first | rfl | simp)) | (simp [*]; done)), (by first | rfl | (simp; done) | (simp only [← hji9] <;> (first | rfl | simp)) | (simp [*]; done)), (by first | rfl | (simp; done) | (simp [*]; done)), H', ⟨by have := HK1.out; omega⟩, ⟨by (with_reducible repeat (first | refine blk_drewN ?_ _ | refine blk_drew ?_ | refine blk_alloc ?_ _)); exact BK1.out⟩, ⟨hbW HB⟩⟩
     ·
      rw [if_neg c6] at H
      exact absurd H (by simp)
    ·
     rw [if_neg c5] at H
     exact absurd H (by simp)
   ·
    rw [if_neg c4] at H
    have c4b0 : decide (x13_1 < (l0_2.length : Int)) = false := decide_eq_false c4
    clear c4
    simp only [Option.some.injEq, Prod.mk.injEq] at H
    obtain ⟨rfl, rfl⟩ := H
    go_wp2
    go_ret2
    exact ⟨by first | rfl | (simp [errW_none, errW_some] <;> rfl) | (simp [*, errW_none, errW_some] <;> rfl), hbW HB⟩

end Go.Proofs.Ytgelpccjdndfoaa.P

namespace Go.Proofs.Ytgelpccjdndfoaa.P
open Go.RowKit Go.Proofs.YtgelpccjdndfoaaW.PrintWords Go.Proofs.YtgelpccjdndfoaaW.PrintLast Go.Proofs.YtgelpccjdndfoaaW.PrintMore
attribute [local go_sem] max2_int min2_int max_two min_two max_three min_three max_four min_four
set_option linter.unusedVariables false
set_option linter.unusedSimpArgs false

/-! ### dragomanref11_Great: function 24 -/
mutual
def q16z.l0 : Nat → Int → List (S76) → Int → Int → Int → List (S92) → List (S76) → List (S53) → Int → Int → Option (Bool)
 | 0, _, _, _, _, _, _, _, _, _, _ => none
 | k + 1, x3, x11, x12, x13, x2000, x2001, x2002, x2003, x2004, x2005 => if x13 < x12 then (if 0 ≤ x13 then (if x13 < (x11.length : Int) then ((q15z.f k ((rd_T76 x11 x13).f1.f0) ((rd_T76 x11 x13).f1.f1) ((rd_T76 x11 x13).f1.f2)).bind fun bt4 => (if x13 > 100 then (some true) else (if (wrap64 (x3 + bt4.1)) > 3000 then (some true) else (q16z.l0 k (wrap64 (x3 + bt4.1)) x11 x12 (wrap64 (x13 + 1)) x2000 x2001 x2002 x2003 x2004 x2005)))) else (none)) else (none)) else (q16z.l1 k 0 x2003 (x2003.length : Int) 0 x2000 x2001 x2002 x2003 x2004 x2005)
def q16z.l1 : Nat → Int → List (S53) → Int → Int → Int → List (S92) → List (S76) → List (S53) → Int → Int → Option (Bool)
 | 0, _, _, _, _, _, _, _, _, _, _ => none
 | k + 1, x3, x35, x36, x37, x2000, x2001, x2002, x2003, x2004, x2005 => if x37 < x36 then (if 0 ≤ x37 then (if x37 < (x35.length : Int) then (if x37 > 100 then (some true) else (if (wrap64 (x3 + (mn (((rd_T53 x35 x37).f1).length : Int) 10000))) > 3000 then (some true) else (q16z.l1 k (wrap64 (x3 + (mn (((rd_T53 x35 x37).f1).length : Int) 10000))) x35 x36 (wrap64 (x37 + 1)) x2000 x2001 x2002 x2003 x2004 x2005))) else (none)) else (none)) else (some (decide ((x2001.length : Int) > 3000)))
end
def q16z.f (k : Nat) (a0_0 : Int) (l0_1 : List (S92)) (l0_2 : List (S76)) (l0_3 : List (S53)) (a0_4 : Int) (a0_5 : Int) : Option (Bool) := q16z.l0 k 0 l0_2 (l0_2.length : Int) 0 a0_0 l0_1 l0_2 l0_3 a0_4 a0_5
theorem q16z.mono_l : ∀ k, (∀ y0 y1 y2 y3 y4 y5 y6 y7 y8 y9, LeO (q16z.l0 k y0 y1 y2 y3 y4 y5 y6 y7 y8 y9) (q16z.l0 (k + 1) y0 y1 y2 y3 y4 y5 y6 y7 y8 y9)) ∧ (∀ y0 y1 y2 y3 y4 y5 y6 y7 y8 y9, LeO (q16z.l1 k y0 y1 y2 y3 y4 y5 y6 y7 y8 y9) (q16z.l1 (k + 1) y0 y1 y2 y3 y4 y5 y6 y7 y8 y9))
 | 0 => ⟨fun _ _ _ _ _ _ _ _ _ _ r h => by simp [q16z.l0] at h, fun _ _ _ _ _ _ _ _ _ _ r h => by simp [q16z.l1] at h⟩
 | k + 1 => by
  obtain ⟨ih0, ih1⟩ := q16z.mono_l k
  refine ⟨?_, ?_⟩
  ·
   intro y0 y1 y2 y3 y4 y5 y6 y7 y8 y9
   unfold q16z.l0
   repeat' first
   | (with_reducible exact ih0 _ _ _ _ _ _ _ _ _ _)
   | (with_reducible exact ih1 _ _ _ _ _ _ _ _ _ _)
   | (with_reducible exact q15z.mono _ _ _ _)
   | (with_reducible exact LeO.refl _)
   | (with_reducible exact LeO.none _)
   | (with_reducible refine LeO.ite ?_ ?_)
   | (with_reducible refine LeO.bind ?_ (fun _ => ?_))
   | exact ih0 _ _ _ _ _ _ _ _ _ _
   | exact ih1 _ _ _ _ _ _ _ _ _ _
   | exact q15z.mono _ _ _ _
   | exact LeO.none _
   | refine LeO.ite ?_ ?_
   | refine LeO.bind ?_ (fun _ => ?_)
  ·
   intro y0 y1 y2 y3 y4 y5 y6 y7 y8 y9
   unfold q16z.l1
   repeat' first
   | (with_reducible exact ih0 _ _ _ _ _ _ _ _ _ _)
   | (with_reducible exact ih1 _ _ _ _ _ _ _ _ _ _)
   | (with_reducible exact q15z.mono _ _ _ _)
   | (with_reducible exact LeO.refl _)
   | (with_reducible exact LeO.none _)
   | (with_reducible refine LeO.ite ?_ ?_)
   | (with_reducible refine LeO.bind ?_ (fun _ => ?_))
   | exact ih0 _ _ _ _ _ _ _ _ _ _
   | exact ih1 _ _ _ _ _ _ _ _ _ _
   | exact q15z.mono _ _ _ _
   | exact LeO.none _
   | refine LeO.ite ?_ ?_
   | refine LeO.bind ?_ (fun _ => ?_)
theorem q16z.mono : ∀ a0 a1 a2 a3 a4 a5 k, LeO (q16z.f k a0 a1 a2 a3 a4 a5) (q16z.f (k + 1) a0 a1 a2 a3 a4 a5) := by
 intro a0 a1 a2 a3 a4 a5 k
 obtain ⟨ih0, ih1⟩ := q16z.mono_l k
 unfold q16z.f
 repeat' first
   | (with_reducible exact ih0 _ _ _ _ _ _ _ _ _ _)
   | (with_reducible exact ih1 _ _ _ _ _ _ _ _ _ _)
   | (with_reducible exact q15z.mono _ _ _ _)
   | (with_reducible exact LeO.refl _)
   | (with_reducible exact LeO.none _)
   | (with_reducible refine LeO.ite ?_ ?_)
   | (with_reducible refine LeO.bind ?_ (fun _ => ?_))
   | exact ih0 _ _ _ _ _ _ _ _ _ _
   | exact ih1 _ _ _ _ _ _ _ _ _ _
   | exact q15z.mono _ _ _ _
   | exact LeO.none _
   | refine LeO.ite ?_ ?_
   | refine LeO.bind ?_ (fun _ => ?_)
set_option maxHeartbeats 8000000 in
set_option maxRecDepth 100000 in
theorem q16z.calls (k : Nat) (a0_0 : Int) (A0_1 : Option Addr) (c0_1 : Nat) (l0_1 : List (S92)) (A0_2 : Option Addr) (c0_2 : Nat) (l0_2 : List (S76)) (A0_3 : Option Addr) (c0_3 : Nat) (l0_3 : List (S53)) (a0_4 : Int) (a0_5 : Int) (r : Bool) (w : World) (hr0_1 : Kd.C k92 w A0_1 l0_1.length l0_1) (hc0_1 : l0_1.length ≤ c0_1) (hr0_2 : Kd.C k76 w A0_2 l0_2.length l0_2) (hc0_2 : l0_2.length ≤ c0_2) (hr0_3 : Kd.C k53 w A0_3 l0_3.length l0_3) (hc0_3 : l0_3.length ≤ c0_3) (h : q16z.f k a0_0 l0_1 l0_2 l0_3 a0_4 a0_5 = some r) :
  Calls Try.prog 24 #[.agg #[.int .i64 a0_0, .slice A0_1 l0_1.length c0_1, .slice A0_2 l0_2.length c0_2, .slice A0_3 l0_3.length c0_3, .int .u32 a0_4, .int .u32 a0_5]] w fun e w' => e = .returned (.bool r) ∧ Below w.heap.size w w' := by
 have hu58 := Try.underlying58
 have hu76 := Try.underlying76
 have hu74 := Try.underlying74
 have hu53 := Try.underlying53
 have HR0_1 := Aside0.mk hr0_1
 have HC0_1 := Aside0.mk hc0_1
 clear hr0_1 hc0_1
 have HR0_2 := Aside0.mk hr0_2
 have HC0_2 := Aside0.mk hc0_2
 clear hr0_2 hc0_2
 have HR0_3 := Aside0.mk hr0_3
 have HC0_3 := Aside0.mk hc0_3
 clear hr0_3 hc0_3
 have HB := Aside0.mk (Below.refl w.heap.size w)
 have H : (q16z.l0 k 0 l0_2 (l0_2.length : Int) 0 a0_0 l0_1 l0_2 l0_3 a0_4 a0_5) = some r := h
 clear h
 have H' := Aside0.mk H
 clear H
 go_enter Try.func24, Try.ntmps24
 go_wp2_with (first | ((with_reducible refine gate_dst (N := 1) rfl ?_); refine box_event ?hg (N := 1) ?hd (cs := #[.int .i64 a0_0, .slice A0_1 l0_1.length c0_1, .slice A0_2 l0_2.length c0_2, .slice A0_3 l0_3.length c0_3, .int .u32 a0_4, .int .u32 a0_5]) (t := 58) ?hr ?_; (case hd => rfl); (case hg => rfl); (case hr => first | (go_simp; done) | (go_simp; rfl)); intro gb1 hg w2 hbox hb; have BK1 := Aside0.mk (hbox); have GW1 := Aside0.mk ((by rw [hg]; exact (below_size (hbW HB)) : w.heap.size ≤ gb1)); have GE1 := Aside0.mk ((by rw [hg]; exact (below_size (hbW HB)) : w.heap.size ≤ gb1)); replace HB := hbS HB hb; clear hb hbox hg; obtain ⟨hcz3_0, hcz3_1, hcz3_2, hcz3_3, hcz3_4, hcz3_5, hfz3_0, hfz3_1, hfz3_2, hfz3_3, hfz3_4, hfz3_5⟩ := bc6 BK1))
 go_loopg [3, 13] k (fun kq v3 v13 w' => ∃ (x3_1 : Int) (x13_1 : Int), v3 = .int .i64 x3_1 ∧ v13 = .int .i64 x13_1 ∧ Aside0 (q16z.l0 kq x3_1 l0_2 (l0_2.length : Int) x13_1 a0_0 l0_1 l0_2 l0_3 a0_4 a0_5 = some r) ∧ Aside0 (kq ≤ k) ∧ Aside0 (w'.heap[gb1]? = some (.cells #[.int .i64 a0_0, (.slice A0_1 l0_1.length c0_1), (.slice A0_2 l0_2.length c0_2), (.slice A0_3 l0_3.length c0_3), .int .u32 a0_4, .int .u32 a0_5] 58 (0, 0))) ∧ Aside0 (Below w.heap.size w w'))
 case atStart => exact ⟨(0), (0), (by first | rfl | (simp; done) | (simp [*]; done)), (by first | rfl | (simp; done) | (simp [*]; done)), H', ⟨Nat.le_refl _⟩, ⟨by (with_reducible repeat (first | refine blk_drewN ?_ _ | refine blk_drew ?_ | refine blk_alloc ?_ _)); exact BK1.out⟩, ⟨hbW HB⟩⟩
 case round =>
  clear H'
  try clear c2
  try clear p2
  try clear hcz3_0
  try clear hcz3_1
  try clear hcz3_2
  try clear hcz3_3
  try clear hcz3_4
  try clear hcz3_5
  try clear hfz3_0
  try clear hfz3_1
  try clear hfz3_2
  try clear hfz3_3
  try clear hfz3_4
  try clear hfz3_5
  obtain ⟨x3_1, x13_1, rfl, rfl, HA, HK1, BK1, HB⟩ := hrel
  cases gk with
  | zero => exact absurd HA.out (by simp [q16z.l0])
  | succ k1 =>
   have H := HA.out
   clear HA
   simp only [q16z.l0] at H
   by_cases c4 : x13_1 < (l0_2.length : Int)
   ·
    rw [if_pos c4] at H
    have c4b0 : decide (x13_1 < (l0_2.length : Int)) = true := decide_eq_true c4
    clear c4
    by_cases c5 : 0 ≤ x13_1
    ·
     rw [if_pos c5] at H
     have c5b0 : decide (0 ≤ x13_1) = true := decide_eq_true c5
     clear c5
     by_cases c6 : x13_1 < (l0_2.length : Int)
     ·
      rw [if_pos c6] at H
      have c6b0 : decide (x13_1 < (l0_2.length : Int)) = true := decide_eq_true c6
      clear c6
      replace H := Option.bind_eq_some_iff.mp H
      obtain ⟨⟨t4, t5⟩, A70, H⟩ := H
      replace H : (if x13_1 > 100 then (some true) else (if (wrap64 (x3_1 + t4)) > 3000 then (some true) else (q16z.l0 k1 (wrap64 (x3_1 + t4)) l0_2 (l0_2.length : Int) (wrap64 (x13_1 + 1)) a0_0 l0_1 l0_2 l0_3 a0_4 a0_5))) = some r := H
      have A7 := Aside0.mk A70
      clear A70
      by_cases c8 : x13_1 > 100
      ·
       rw [if_pos c8] at H
       have c8b0 : decide (100 < x13_1) = true := decide_eq_true c8
       clear c8
       obtain rfl := Option.some.inj H
       have p2 : 0 ≤ (x13_1 : Int) := of_decide_eq_true (by first | (with_reducible assumption) | assumption)
       have q2 : x13_1 < (l0_2.length : Int) := of_decide_eq_true (by first | (with_reducible assumption) | assumption)
       obtain ⟨ad2, A2_2, c2_2, A2_3, c2_3, e2, hx2_0, hx2_1, hx2_2, hx2_3, hl2_2, hi2_2, hl2_3, hi2_3⟩ := at_T76 HR0_2.out x13_1 p2 q2
       cases e2
       replace hx2_0 := (HB.out.cell (World.block_lt_of_cell? w _ hx2_0)).trans hx2_0
       replace hx2_1 := (HB.out.cell (World.block_lt_of_cell? w _ hx2_1)).trans hx2_1
       replace hx2_2 := (HB.out.cell (World.block_lt_of_cell? w _ hx2_2)).trans hx2_2
       replace hx2_3 := (HB.out.cell (World.block_lt_of_cell? w _ hx2_3)).trans hx2_3
       have HR2_2 := Aside0.mk hi2_2
       have HC2_2 := Aside0.mk hl2_2
       clear hi2_2 hl2_2
       have HR2_3 := Aside0.mk hi2_3
       have HC2_3 := Aside0.mk hl2_3
       clear hi2_3 hl2_3
       replace p2 := eq_true p2
       replace q2 := eq_true q2
       go_wp2_with (first | ((with_reducible refine gate_dst (N := 5) rfl ?_); refine box_event ?hg (N := 5) ?hd (cs := #[.bool false, .int .i64 0, .slice none 0 0, .slice none 0 0]) (t := 76) ?hr ?_; (case hd => rfl); (case hg => rfl); (case hr => first | (go_simp; done) | (go_simp; rfl)); intro gb3 hg w9 hbox hb; have BK3 := Aside0.mk (hbox); have GW3 := Aside0.mk ((by rw [hg]; exact (below_size (hbW HB)) : w.heap.size ≤ gb3)); have GE3 := Aside0.mk ((by rw [hg]; exact (below_size (hbW HB)) : w.heap.size ≤ gb3)); have NB1_3 := Aside0.mk ((by rw [hg]; exact Nat.ne_of_lt (blk_lt (bkW BK1)) : gb1 ≠ gb3)); have NB3_1 := Aside0.mk ((by rw [hg]; exact Nat.ne_of_gt (blk_lt (bkW BK1)) : gb3 ≠ gb1)); replace BK1 := bkB BK1 hb; replace HB := hbS HB hb; clear hb hbox hg; have hnb10 := NB3_1.out; have hnc10 := NB1_3.out; obtain ⟨hcz11_0, hcz11_1, hcz11_2, hcz11_3, hfz11_0, hfz11_1, hfz11_2, hfz11_3⟩ := bc4 BK3) | ((with_reducible refine gate_callee (f := 40) rfl ?_); refine goesL_ (some 21) rfl rfl Try.func40 (by kernel_rfl) rfl #[.agg #[.int .i64 ((rd_T76 l0_2 x13_1).f1.f0), .slice A2_2 ((rd_T76 l0_2 x13_1).f1.f1).length c2_2, .slice A2_3 ((rd_T76 l0_2 x13_1).f1.f2).length c2_3]] rfl (by (try simp only [List.map_toArray, List.map_cons, List.map_nil]); first | done | rfl | (simp only [List.length_drop, List.length_take]; rfl)) ?_; (with_reducible refine (q15z.calls k1 ((rd_T76 l0_2 x13_1).f1.f0) _ _ ((rd_T76 l0_2 x13_1).f1.f1) _ _ ((rd_T76 l0_2 x13_1).f1.f2) t4 t5 _ ?side1 ?side2 ?side3 ?side4 A7.out).mono ?_); (case side1 => exact Kd.C_below HR2_2.out (hbW HB)); (case side2 => exact HC2_2.out); (case side3 => exact Kd.C_below HR2_3.out (hbW HB)); (case side4 => exact HC2_3.out); rintro e w12 ⟨rfl, hb⟩; refine ⟨_, rfl, ?_⟩; replace BK1 := bvB BK1 hb; replace BK3 := Aside0.mk (blk_below (g := gb3) (o := .cells #[.bool ((rd_T76 l0_2 x13_1).f0), .int .i64 ((rd_T76 l0_2 x13_1).f1.f0), .slice A2_2 ((rd_T76 l0_2 x13_1).f1.f1).length c2_2, .slice A2_3 ((rd_T76 l0_2 x13_1).f1.f2).length c2_3] 76 (0, 0)) (bp4 BK3) hb); replace HB := hbS HB hb; (try clear hb)))
       go_ret
       exact ⟨by first | rfl | (simp [errW_none, errW_some] <;> rfl) | (simp [*, errW_none, errW_some] <;> rfl), hbW HB⟩
      ·
       rw [if_neg c8] at H
       have c8b0 : decide (100 < x13_1) = false := decide_eq_false c8
       clear c8
       by_cases c13 : (wrap64 (x3_1 + t4)) > 3000
       ·
        rw [if_pos c13] at H
        have c13b0 : decide (3000 < (wrap64 (x3_1 + t4))) = true := decide_eq_true c13
        clear c13
        obtain rfl := Option.some.inj H
        have p2 : 0 ≤ (x13_1 : Int) := of_decide_eq_true (by first | (with_reducible assumption) | assumption)
        have q2 : x13_1 < (l0_2.length : Int) := of_decide_eq_true (by first | (with_reducible assumption) | assumption)
        obtain ⟨ad2, A2_2, c2_2, A2_3, c2_3, e2, hx2_0, hx2_1, hx2_2, hx2_3, hl2_2, hi2_2, hl2_3, hi2_3⟩ := at_T76 HR0_2.out x13_1 p2 q2
        cases e2
        replace hx2_0 := (HB.out.cell (World.block_lt_of_cell? w _ hx2_0)).trans hx2_0
        replace hx2_1 := (HB.out.cell (World.block_lt_of_cell? w _ hx2_1)).trans hx2_1
        replace hx2_2 := (HB.out.cell (World.block_lt_of_cell? w _ hx2_2)).trans hx2_2
        replace hx2_3 := (HB.out.cell (World.block_lt_of_cell? w _ hx2_3)).trans hx2_3
        have HR2_2 := Aside0.mk hi2_2
        have HC2_2 := Aside0.mk hl2_2
        clear hi2_2 hl2_2
        have HR2_3 := Aside0.mk hi2_3
        have HC2_3 := Aside0.mk hl2_3
        clear hi2_3 hl2_3
        replace p2 := eq_true p2
        replace q2 := eq_true q2
        go_wp2_with (first | ((with_reducible refine gate_dst (N := 5) rfl ?_); refine box_event ?hg (N := 5) ?hd (cs := #[.bool false, .int .i64 0, .slice none 0 0, .slice none 0 0]) (t := 76) ?hr ?_; (case hd => rfl); (case hg => rfl); (case hr => first | (go_simp; done) | (go_simp; rfl)); intro gb3 hg w14 hbox hb; have BK3 := Aside0.mk (hbox); have GW3 := Aside0.mk ((by rw [hg]; exact (below_size (hbW HB)) : w.heap.size ≤ gb3)); have GE3 := Aside0.mk ((by rw [hg]; exact (below_size (hbW HB)) : w.heap.size ≤ gb3)); have NB1_3 := Aside0.mk ((by rw [hg]; exact Nat.ne_of_lt (blk_lt (bkW BK1)) : gb1 ≠ gb3)); have NB3_1 := Aside0.mk ((by rw [hg]; exact Nat.ne_of_gt (blk_lt (bkW BK1)) : gb3 ≠ gb1)); replace BK1 := bkB BK1 hb; replace HB := hbS HB hb; clear hb hbox hg; have hnb15 := NB3_1.out; have hnc15 := NB1_3.out; obtain ⟨hcz16_0, hcz16_1, hcz16_2, hcz16_3, hfz16_0, hfz16_1, hfz16_2, hfz16_3⟩ := bc4 BK3) | ((with_reducible refine gate_callee (f := 40) rfl ?_); refine goesL_ (some 21) rfl rfl Try.func40 (by kernel_rfl) rfl #[.agg #[.int .i64 ((rd_T76 l0_2 x13_1).f1.f0), .slice A2_2 ((rd_T76 l0_2 x13_1).f1.f1).length c2_2, .slice A2_3 ((rd_T76 l0_2 x13_1).f1.f2).length c2_3]] rfl (by (try simp only [List.map_toArray, List.map_cons, List.map_nil]); first | done | rfl | (simp only [List.length_drop, List.length_take]; rfl)) ?_; (with_reducible refine (q15z.calls k1 ((rd_T76 l0_2 x13_1).f1.f0) _ _ ((rd_T76 l0_2 x13_1).f1.f1) _ _ ((rd_T76 l0_2 x13_1).f1.f2) t4 t5 _ ?side1 ?side2 ?side3 ?side4 A7.out).mono ?_); (case side1 => exact Kd.C_below HR2_2.out (hbW HB)); (case side2 => exact HC2_2.out); (case side3 => exact Kd.C_below HR2_3.out (hbW HB)); (case side4 => exact HC2_3.out); rintro e w17 ⟨rfl, hb⟩; refine ⟨_, rfl, ?_⟩; replace BK1 := bvB BK1 hb; replace BK3 := Aside0.mk (blk_below (g := gb3) (o := .cells #[.bool ((rd_T76 l0_2 x13_1).f0), .int .i64 ((rd_T76 l0_2 x13_1).f1.f0), .slice A2_2 ((rd_T76 l0_2 x13_1).f1.f1).length c2_2, .slice A2_3 ((rd_T76 l0_2 x13_1).f1.f2).length c2_3] 76 (0, 0)) (bp4 BK3) hb); replace HB := hbS HB hb; (try clear hb)))
        go_ret
        exact ⟨by first | rfl | (simp [errW_none, errW_some] <;> rfl) | (simp [*, errW_none, errW_some] <;> rfl), hbW HB⟩
       ·
        rw [if_neg c13] at H
        have c13b0 : decide (3000 < (wrap64 (x3_1 + t4))) = false := decide_eq_false c13
        clear c13
        have H' := Aside0.mk H
        clear H
        have p2 : 0 ≤ (x13_1 : Int) := of_decide_eq_true (by first | (with_reducible assumption) | assumption)
        have q2 : x13_1 < (l0_2.length : Int) := of_decide_eq_true (by first | (with_reducible assumption) | assumption)
        obtain ⟨ad2, A2_2, c2_2, A2_3, c2_3, e2, hx2_0, hx2_1, hx2_2, hx2_3, hl2_2, hi2_2, hl2_3, hi2_3⟩ := at_T76 HR0_2.out x13_1 p2 q2
        cases e2
        replace hx2_0 := (HB.out.cell (World.block_lt_of_cell? w _ hx2_0)).trans hx2_0
        replace hx2_1 := (HB.out.cell (World.block_lt_of_cell? w _ hx2_1)).trans hx2_1
        replace hx2_2 := (HB.out.cell (World.block_lt_of_cell? w _ hx2_2)).trans hx2_2
        replace hx2_3 := (HB.out.cell (World.block_lt_of_cell? w _ hx2_3)).trans hx2_3
        have HR2_2 := Aside0.mk hi2_2
        have HC2_2 := Aside0.mk hl2_2
        clear hi2_2 hl2_2
        have HR2_3 := Aside0.mk hi2_3
        have HC2_3 := Aside0.mk hl2_3
        clear hi2_3 hl2_3
        replace p2 := eq_true p2
        replace q2 := eq_true q2
        go_wp2_with (first | ((with_reducible refine gate_dst (N := 5) rfl ?_); refine box_event ?hg (N := 5) ?hd (cs := #[.bool false, .int .i64 0, .slice none 0 0, .slice none 0 0]) (t := 76) ?hr ?_; (case hd => rfl); (case hg => rfl); (case hr => first | (go_simp; done) | (go_simp; rfl)); intro gb3 hg w18 hbox hb; have BK3 := Aside0.mk (hbox); have GW3 := Aside0.mk ((by rw [hg]; exact (below_size (hbW HB)) : w.heap.size ≤ gb3)); have GE3 := Aside0.mk ((by rw [hg]; exact (below_size (hbW HB)) : w.heap.size ≤ gb3)); have NB1_3 := Aside0.mk ((by rw [hg]; exact Nat.ne_of_lt (blk_lt (bkW BK1)) : gb1 ≠ gb3)); have NB3_1 := Aside0.mk ((by rw [hg]; exact Nat.ne_of_gt (blk_lt (bkW BK1)) : gb3 ≠ gb1)); replace BK1 := bkB BK1 hb; replace HB := hbS HB hb; clear hb hbox hg; have hnb19 := NB3_1.out; have hnc19 := NB1_3.out; obtain ⟨hcz20_0, hcz20_1, hcz20_2, hcz20_3, hfz20_0, hfz20_1, hfz20_2, hfz20_3⟩ := bc4 BK3) | ((with_reducible refine gate_callee (f := 40) rfl ?_); refine goesL_ (some 21) rfl rfl Try.func40 (by kernel_rfl) rfl #[.agg #[.int .i64 ((rd_T76 l0_2 x13_1).f1.f0), .slice A2_2 ((rd_T76 l0_2 x13_1).f1.f1).length c2_2, .slice A2_3 ((rd_T76 l0_2 x13_1).f1.f2).length c2_3]] rfl (by (try simp only [List.map_toArray, List.map_cons, List.map_nil]); first | done | rfl | (simp only [List.length_drop, List.length_take]; rfl)) ?_; (with_reducible refine (q15z.calls k1 ((rd_T76 l0_2 x13_1).f1.f0) _ _ ((rd_T76 l0_2 x13_1).f1.f1) _ _ ((rd_T76 l0_2 x13_1).f1.f2) t4 t5 _ ?side1 ?side2 ?side3 ?side4 A7.out).mono ?_); (case side1 => exact Kd.C_below HR2_2.out (hbW HB)); (case side2 => exact HC2_2.out); (case side3 => exact Kd.C_below HR2_3.out (hbW HB)); (case side4 => exact HC2_3.out); rintro e w21 ⟨rfl, hb⟩; refine ⟨_, rfl, ?_⟩; replace BK1 := bvB BK1 hb; replace BK3 := Aside0.mk (blk_below (g := gb3) (o := .cells #[.bool ((rd_T76 l0_2 x13_1).f0), .int .i64 ((rd_T76 l0_2 x13_1).f1.f0), .slice A2_2 ((rd_T76 l0_2 x13_1).f1.f1).length c2_2, .slice A2_3 ((rd_T76 l0_2 x13_1).f1.f2).length c2_3] 76 (0, 0)) (bp4 BK3) hb); replace HB := hbS HB hb; (try clear hb)))
        go_roundg k1
        case measure => have := HK1.out; omega
        case rel => exact ⟨(wrap64 (x3_1 + t4)), (wrap64 (x13_1 + 1)), (by first | rfl | (simp; done) | (simp [*]; done)), (by first | rfl | (simp; done) | (simp [*]; done)), H', ⟨by have := HK1.out; omega⟩, ⟨by (with_reducible repeat (first | refine blk_drewN ?_ _ | refine blk_drew ?_ | refine blk_alloc ?_ _)); exact BK1.out⟩, ⟨hbW HB⟩⟩
     ·
      rw [if_neg c6] at H
      exact absurd H (by simp)
    ·
     rw [if_neg c5] at H
     exact absurd H (by simp)
   ·
    rw [if_neg c4] at H
    have c4b0 : decide (x13_1 < (l0_2.length : Int)) = false := decide_eq_false c4
    clear c4
    have H' := Aside0.mk H
    clear H
    obtain ⟨hcz22_0, hcz22_1, hcz22_2, hcz22_3, hcz22_4, hcz22_5, hfz22_0, hfz22_1, hfz22_2, hfz22_3, hfz22_4, hfz22_5⟩ := bc6 BK1
    go_wp2
    go_loopg [3, 37] k1 (fun kq v3 v37 w' => ∃ (x3_2 : Int) (x37_2 : Int), v3 = .int .i64 x3_2 ∧ v37 = .int .i64 x37_2 ∧ Aside0 (q16z.l1 kq x3_2 l0_3 (l0_3.length : Int) x37_2 a0_0 l0_1 l0_2 l0_3 a0_4 a0_5 = some r) ∧ Aside0 (kq ≤ k1) ∧ Aside0 (w'.heap[gb1]? = some (.cells #[.int .i64 a0_0, (.slice A0_1 l0_1.length c0_1), (.slice A0_2 l0_2.length c0_2), (.slice A0_3 l0_3.length c0_3), .int .u32 a0_4, .int .u32 a0_5] 58 (0, 0))) ∧ Aside0 (Below w.heap.size w w'))
    case atStart => exact ⟨(0), (0), (by first | rfl | (simp; done) | (simp [*]; done)), (by first | rfl | (simp; done) | (simp [*]; done)), H', ⟨Nat.le_refl _⟩, ⟨by (with_reducible repeat (first | refine blk_drewN ?_ _ | refine blk_drew ?_ | refine blk_alloc ?_ _)); exact BK1.out⟩, ⟨hbW HB⟩⟩
    case round =>
     clear H'
     try clear c1
     try clear c2
     try clear p2
     try clear q2
     try clear hx2
     try clear c4
     try clear c4b0
     try clear c5
     try clear c5b0
     try clear c6
     try clear c6b0
     try clear p6
     try clear c8
     try clear c8b0
     try clear c10
     try clear c13
     try clear c13b0
     try clear c15
     try clear c19
     try clear hcz11_0
     try clear hcz11_1
     try clear hcz11_2
     try clear hcz11_3
     try clear hcz16_0
     try clear hcz16_1
     try clear hcz16_2
     try clear hcz16_3
     try clear hcz20_0
     try clear hcz20_1
     try clear hcz20_2
     try clear hcz20_3
     try clear hcz22_0
     try clear hcz22_1
     try clear hcz22_2
     try clear hcz22_3
     try clear hcz22_4
     try clear hcz22_5
     try clear hcz3_0
     try clear hcz3_1
     try clear hcz3_2
     try clear hcz3_3
     try clear hcz3_4
     try clear hcz3_5
     try clear hfz11_0
     try clear hfz11_1
     try clear hfz11_2
     try clear hfz11_3
     try clear hfz16_0
     try clear hfz16_1
     try clear hfz16_2
     try clear hfz16_3
     try clear hfz20_0
     try clear hfz20_1
     try clear hfz20_2
     try clear hfz20_3
     try clear hfz22_0
     try clear hfz22_1
     try clear hfz22_2
     try clear hfz22_3
     try clear hfz22_4
     try clear hfz22_5
     try clear hfz3_0
     try clear hfz3_1
     try clear hfz3_2
     try clear hfz3_3
     try clear hfz3_4
     try clear hfz3_5
     try clear hx2_0
     try clear hx2_1
     try clear hx2_2
     try clear hx2_3
     try clear p2
     try clear q2
     obtain ⟨x3_2, x37_2, rfl, rfl, HA, HK2, BK1, HB⟩ := hrel
     cases gk with
     | zero => exact absurd HA.out (by simp [q16z.l1])
     | succ k2 =>
      have H := HA.out
      clear HA
      simp only [q16z.l1] at H
      by_cases c23 : x37_2 < (l0_3.length : Int)
      ·
       rw [if_pos c23] at H
       have c23b0 : decide (x37_2 < (l0_3.length : Int)) = true := decide_eq_true c23
       clear c23
       by_cases c24 : 0 ≤ x37_2
       ·
        rw [if_pos c24] at H
        have c24b0 : decide (0 ≤ x37_2) = true := decide_eq_true c24
        clear c24
        by_cases c25 : x37_2 < (l0_3.length : Int)
        ·
         rw [if_pos c25] at H
         have c25b0 : decide (x37_2 < (l0_3.length : Int)) = true := decide_eq_true c25
         clear c25
         obtain ⟨ji26, hji26⟩ : ∃ j_ : Int, (mn (((rd_T53 l0_3 x37_2).f1).length : Int) 10000) = j_ := ⟨_, rfl⟩
         replace H : (if x37_2 > 100 then (some true) else (if (wrap64 (x3_2 + (ji26))) > 3000 then (some true) else (q16z.l1 k2 (wrap64 (x3_2 + (ji26))) l0_3 (l0_3.length : Int) (wrap64 (x37_2 + 1)) a0_0 l0_1 l0_2 l0_3 a0_4 a0_5))) = some r := by first | (rw [hji26] at H; exact H) | (simp only [hji26] at H ⊢; exact H)
         have hji26_ : (if 10000 < (((rd_T53 l0_3 x37_2).f1).length : Int) then 10000 else (((rd_T53 l0_3 x37_2).f1).length : Int)) = ji26 := hji26
         by_cases c27 : x37_2 > 100
         ·
          rw [if_pos c27] at H
          have c27b0 : decide (100 < x37_2) = true := decide_eq_true c27
          clear c27
          obtain rfl := Option.some.inj H
          have p6 : 0 ≤ (x37_2 : Int) := of_decide_eq_true (by first | (with_reducible assumption) | assumption)
          have q6 : x37_2 < (l0_3.length : Int) := of_decide_eq_true (by first | (with_reducible assumption) | assumption)
          obtain ⟨ad6, A6_1, c6_1, e6, hx6_0, hx6_1, hl6_1, hi6_1⟩ := at_T53 HR0_3.out x37_2 p6 q6
          cases e6
          replace hx6_0 := (HB.out.cell (World.block_lt_of_cell? w _ hx6_0)).trans hx6_0
          replace hx6_1 := (HB.out.cell (World.block_lt_of_cell? w _ hx6_1)).trans hx6_1
          have HR6_1 := Aside0.mk hi6_1
          have HC6_1 := Aside0.mk hl6_1
          clear hi6_1 hl6_1
          replace p6 := eq_true p6
          replace q6 := eq_true q6
          go_wp2_with (first | ((with_reducible refine gate_dst (N := 9) rfl ?_); refine box_event ?hg (N := 9) ?hd (cs := #[.bool false, .slice none 0 0]) (t := 53) ?hr ?_; (case hd => rfl); (case hg => rfl); (case hr => first | (go_simp; done) | (go_simp; rfl)); intro gb7 hg w28 hbox hb; have BK7 := Aside0.mk (hbox); have GW7 := Aside0.mk ((by rw [hg]; exact (below_size (hbW HB)) : w.heap.size ≤ gb7)); have GE7 := Aside0.mk ((by rw [hg]; exact (below_size (hbW HB)) : w.heap.size ≤ gb7)); have NB1_7 := Aside0.mk ((by rw [hg]; exact Nat.ne_of_lt (blk_lt (bkW BK1)) : gb1 ≠ gb7)); have NB7_1 := Aside0.mk ((by rw [hg]; exact Nat.ne_of_gt (blk_lt (bkW BK1)) : gb7 ≠ gb1)); replace BK1 := bkB BK1 hb; replace HB := hbS HB hb; clear hb hbox hg; have hnb29 := NB7_1.out; have hnc29 := NB1_7.out; obtain ⟨hcz30_0, hcz30_1, hfz30_0, hfz30_1⟩ := bc2 BK7))
          go_ret
          exact ⟨by first | rfl | (simp [errW_none, errW_some] <;> rfl) | (simp only [← hji26]; first | rfl | (simp [errW_none, errW_some] <;> rfl)) | (simp [*, errW_none, errW_some] <;> rfl), hbW HB⟩
         ·
          rw [if_neg c27] at H
          have c27b0 : decide (100 < x37_2) = false := decide_eq_false c27
          clear c27
          by_cases c31 : (wrap64 (x3_2 + (ji26))) > 3000
          ·
           rw [if_pos c31] at H
           have c31b0 : decide (3000 < (wrap64 (x3_2 + (ji26)))) = true := decide_eq_true c31
           clear c31
           obtain rfl := Option.some.inj H
           have p6 : 0 ≤ (x37_2 : Int) := of_decide_eq_true (by first | (with_reducible assumption) | assumption)
           have q6 : x37_2 < (l0_3.length : Int) := of_decide_eq_true (by first | (with_reducible assumption) | assumption)
           obtain ⟨ad6, A6_1, c6_1, e6, hx6_0, hx6_1, hl6_1, hi6_1⟩ := at_T53 HR0_3.out x37_2 p6 q6
           cases e6
           replace hx6_0 := (HB.out.cell (World.block_lt_of_cell? w _ hx6_0)).trans hx6_0
           replace hx6_1 := (HB.out.cell (World.block_lt_of_cell? w _ hx6_1)).trans hx6_1
           have HR6_1 := Aside0.mk hi6_1
           have HC6_1 := Aside0.mk hl6_1
           clear hi6_1 hl6_1
           replace p6 := eq_true p6
           replace q6 := eq_true q6
           go_wp2_with (first | ((with_reducible refine gate_dst (N := 9) rfl ?_); refine box_event ?hg (N := 9) ?hd (cs := #[.bool false, .slice none 0 0]) (t := 53) ?hr ?_; (case hd => rfl); (case hg => rfl); (case hr => first | (go_simp; done) | (go_simp; rfl)); intro gb7 hg w32 hbox hb; have BK7 := Aside0.mk (hbox); have GW7 := Aside0.mk ((by rw [hg]; exact (below_size (hbW HB)) : w.heap.size ≤ gb7)); have GE7 := Aside0.mk ((by rw [hg]; exact (below_size (hbW HB)) : w.heap.size ≤ gb7)); have NB1_7 := Aside0.mk ((by rw [hg]; exact Nat.ne_of_lt (blk_lt (bkW BK1)) : gb1 ≠ gb7)); have NB7_1 := Aside0.mk ((by rw [hg]; exact Nat.ne_of_gt (blk_lt (bkW BK1)) : gb7 ≠ gb1)); replace BK1 := bkB BK1 hb; replace HB := hbS HB hb; clear hb hbox hg; have hnb33 := NB7_1.out; have hnc33 := NB1_7.out; obtain ⟨hcz34_0, hcz34_1, hfz34_0, hfz34_1⟩ := bc2 BK7))
           go_ret
           exact ⟨by first | rfl | (simp [errW_none, errW_some] <;> rfl) | (simp only [← hji26]; first | rfl | (simp [errW_none, errW_some] <;> rfl)) | (simp [*, errW_none, errW_some] <;> rfl), hbW HB⟩
          ·
           rw [if_neg c31] at H
           have c31b0 : decide (3000 < (wrap64 (x3_2 + (ji26)))) = false := decide_eq_false c31
           clear c31
           have H' := Aside0.mk H
           clear H
           have p6 : 0 ≤ (x37_2 : Int) := of_decide_eq_true (by first | (with_reducible assumption) | assumption)
           have q6 : x37_2 < (l0_3.length : Int) := of_decide_eq_true (by first | (with_reducible assumption) | assumption)
           obtain ⟨ad6, A6_1, c6_1, e6, hx6_0, hx6_1, hl6_1, hi6_1⟩ := at_T53 HR0_3.out x37_2 p6 q6
           cases e6
           replace hx6_0 := (HB.out.cell (World.block_lt_of_cell? w _ hx6_0)).trans hx6_0
           replace hx6_1 := (HB.out.cell (World.block_lt_of_cell? w _ hx6_1)).trans hx6_1
           have HR6_1 := Aside0.mk hi6_1
           have HC6_1 := Aside0.mk hl6_1
           clear hi6_1 hl6_1
           replace p6 := eq_true p6
           replace q6 := eq_true q6
           go_wp2_with (first | ((with_reducible refine gate_dst (N := 9) rfl ?_); refine box_event ?hg (N := 9) ?hd (cs := #[.bool false, .slice none 0 0]) (t := 53) ?hr ?_; (case hd => rfl); (case hg => rfl); (case hr => first | (go_simp; done) | (go_simp; rfl)); intro gb7 hg w35 hbox hb; have BK7 := Aside0.mk (hbox); have GW7 := Aside0.mk ((by rw [hg]; exact (below_size (hbW HB)) : w.heap.size ≤ gb7)); have GE7 := Aside0.mk ((by rw [hg]; exact (below_size (hbW HB)) : w.heap.size ≤ gb7)); have NB1_7 := Aside0.mk ((by rw [hg]; exact Nat.ne_of_lt (blk_lt (bkW BK1)) : gb1 ≠ gb7)); have NB7_1 := Aside0.mk ((by rw [hg]; exact Nat.ne_of_gt (blk_lt (bkW BK1)) : gb7 ≠ gb1)); replace BK1 := bkB BK1 hb; replace HB := hbS HB hb; clear hb hbox hg; have hnb36 := NB7_1.out; have hnc36 := NB1_7.out; obtain ⟨hcz37_0, hcz37_1, hfz37_0, hfz37_1⟩ := bc2 BK7))
           go_roundg k2
           case measure => have := HK1.out; have := HK2.out; omega
           case rel => exact ⟨(wrap64 (x3_2 + (ji26))), (wrap64 (x37_2 + 1)), (by first | rfl | (simp; done) | (simp only [← hji26] <;> (first | rfl | simp)) | (simp [*]; done)), (by first | rfl | (simp; done) | (simp [*]; done)), H', ⟨by have := HK1.out; have := HK2.out; omega⟩, ⟨by (with_reducible repeat (first | refine blk_drewN ?_ _ | refine blk_drew ?_ | refine blk_alloc ?_ _)); refine blk_far ?_ NB1_7.out _; (with_reducible repeat (first | refine blk_drewN ?_ _ | refine blk_drew ?_ | refine blk_alloc ?_ _)); refine blk_far ?_ NB1_7.out _; (with_reducible repeat (first | refine blk_drewN ?_ _ | refine blk_drew ?_ | refine blk_alloc ?_ _)); exact BK1.out⟩, ⟨hbW HB⟩⟩
        ·
         rw [if_neg c25] at H
         exact absurd H (by simp)
       ·
        rw [if_neg c24] at H
        exact absurd H (by simp)
      ·
       rw [if_neg c23] at H
       have c23b0 : decide (x37_2 < (l0_3.length : Int)) = false := decide_eq_false c23
       clear c23
       obtain rfl := Option.some.inj H
       obtain ⟨hcz38_0, hcz38_1, hcz38_2, hcz38_3, hcz38_4, hcz38_5, hfz38_0, hfz38_1, hfz38_2, hfz38_3, hfz38_4, hfz38_5⟩ := bc6 BK1
       go_wp2
       go_ret
       exact ⟨by first | rfl | (simp [errW_none, errW_some] <;> rfl) | (simp [*, errW_none, errW_some] <;> rfl), hbW HB⟩

end Go.Proofs.Ytgelpccjdndfoaa.P

namespace Go.Proofs.Ytgelpccjdndfoaa.P
open Go.RowKit Go.Proofs.YtgelpccjdndfoaaW.PrintWords Go.Proofs.YtgelpccjdndfoaaW.PrintLast Go.Proofs.YtgelpccjdndfoaaW.PrintMore
attribute [local go_sem] max2_int min2_int max_two min_two max_three min_three max_four min_four
set_option linter.unusedVariables false
set_option linter.unusedSimpArgs false

/-! ### dragomanref12_Great: function 9 -/
def q17z.f (k : Nat) (a0_0 : Int) (a0_1 : Int) (l0_2 : List Int) (l0_3 : List (S53)) : Option (Bool) := if (l0_2.length : Int) > 3000 then (some true) else ((q16z.f k 0 ([] : List (S92)) ([] : List (S76)) l0_3 0 0).bind fun t2 => (some t2))
theorem q17z.mono : ∀ a0 a1 a2 a3 k, LeO (q17z.f k a0 a1 a2 a3) (q17z.f (k + 1) a0 a1 a2 a3) := by
 intro a0 a1 a2 a3 k
 unfold q17z.f
 repeat' first
   | (with_reducible exact q16z.mono _ _ _ _ _ _ _)
   | (with_reducible exact LeO.refl _)
   | (with_reducible exact LeO.none _)
   | (with_reducible refine LeO.ite ?_ ?_)
   | (with_reducible refine LeO.bind ?_ (fun _ => ?_))
   | exact q16z.mono _ _ _ _ _ _ _
   | exact LeO.none _
   | refine LeO.ite ?_ ?_
   | refine LeO.bind ?_ (fun _ => ?_)
set_option maxHeartbeats 8000000 in
set_option maxRecDepth 100000 in
theorem q17z.calls (k : Nat) (a0_0 : Int) (a0_1 : Int) (A0_2 : Option Addr) (c0_2 : Nat) (l0_2 : List Int) (A0_3 : Option Addr) (c0_3 : Nat) (l0_3 : List (S53)) (r : Bool) (w : World) (hr0_2 : Kd.C (Kd.int .u32) w A0_2 l0_2.length l0_2) (hc0_2 : l0_2.length ≤ c0_2) (hr0_3 : Kd.C k53 w A0_3 l0_3.length l0_3) (hc0_3 : l0_3.length ≤ c0_3) (h : q17z.f k a0_0 a0_1 l0_2 l0_3 = some r) :
  Calls Try.prog 9 #[.agg #[.int .i64 a0_0, .int .u32 a0_1, .slice A0_2 l0_2.length c0_2, .slice A0_3 l0_3.length c0_3]] w fun e w' => e = .returned (.bool r) ∧ Below w.heap.size w w' := by
 have hu26 := Try.underlying26
 have hu58 := Try.underlying58
 have HR0_2 := Aside0.mk hr0_2
 have HC0_2 := Aside0.mk hc0_2
 clear hr0_2 hc0_2
 have HR0_3 := Aside0.mk hr0_3
 have HC0_3 := Aside0.mk hc0_3
 clear hr0_3 hc0_3
 have HB := Aside0.mk (Below.refl w.heap.size w)
 have H : (if (l0_2.length : Int) > 3000 then (some true) else ((q16z.f k 0 ([] : List (S92)) ([] : List (S76)) l0_3 0 0).bind fun t2 => (some t2))) = some r := h
 clear h
 by_cases c2 : (l0_2.length : Int) > 3000
 ·
  rw [if_pos c2] at H
  have c2b0 : decide (3000 < (l0_2.length : Int)) = true := decide_eq_true c2
  have c2b1 : decide (3000 < l0_2.length) = true := decide_eq_true (by omega)
  clear c2
  obtain rfl := Option.some.inj H
  go_enter Try.func9, Try.ntmps9
  go_wp2_with (first | ((with_reducible refine gate_dst (N := 1) rfl ?_); refine box_event ?hg (N := 1) ?hd (cs := #[.int .i64 a0_0, .int .u32 a0_1, .slice A0_2 l0_2.length c0_2, .slice A0_3 l0_3.length c0_3]) (t := 26) ?hr ?_; (case hd => rfl); (case hg => rfl); (case hr => first | (go_simp; done) | (go_simp; rfl)); intro gb1 hg w3 hbox hb; have BK1 := Aside0.mk (hbox); have GW1 := Aside0.mk ((by rw [hg]; exact (below_size (hbW HB)) : w.heap.size ≤ gb1)); have GE1 := Aside0.mk ((by rw [hg]; exact (below_size (hbW HB)) : w.heap.size ≤ gb1)); replace HB := hbS HB hb; clear hb hbox hg; obtain ⟨hcz4_0, hcz4_1, hcz4_2, hcz4_3, hfz4_0, hfz4_1, hfz4_2, hfz4_3⟩ := bc4 BK1))
  go_ret
  exact ⟨by first | rfl | (simp [errW_none, errW_some] <;> rfl) | (simp [*, errW_none, errW_some] <;> rfl), hbW HB⟩
 ·
  rw [if_neg c2] at H
  have c2b0 : decide (3000 < (l0_2.length : Int)) = false := decide_eq_false c2
  have c2b1 : decide (3000 < l0_2.length) = false := decide_eq_false (by omega)
  clear c2
  replace H := Option.bind_eq_some_iff.mp H
  obtain ⟨t2, A50, H⟩ := H
  replace H : (some t2) = some r := H
  have A5 := Aside0.mk A50
  clear A50
  obtain rfl := Option.some.inj H
  go_enter Try.func9, Try.ntmps9
  go_wp2_with (first | ((with_reducible refine gate_dst (N := 1) rfl ?_); refine box_event ?hg (N := 1) ?hd (cs := #[.int .i64 a0_0, .int .u32 a0_1, .slice A0_2 l0_2.length c0_2, .slice A0_3 l0_3.length c0_3]) (t := 26) ?hr ?_; (case hd => rfl); (case hg => rfl); (case hr => first | (go_simp; done) | (go_simp; rfl)); intro gb1 hg w6 hbox hb; have BK1 := Aside0.mk (hbox); have GW1 := Aside0.mk ((by rw [hg]; exact (below_size (hbW HB)) : w.heap.size ≤ gb1)); have GE1 := Aside0.mk ((by rw [hg]; exact (below_size (hbW HB)) : w.heap.size ≤ gb1)); replace HB := hbS HB hb; clear hb hbox hg; obtain ⟨hcz7_0, hcz7_1, hcz7_2, hcz7_3, hfz7_0, hfz7_1, hfz7_2, hfz7_3⟩ := bc4 BK1) | (go_at_call 24; (refine (q16z.calls k 0 _ _ ([] : List (S92)) _ _ ([] : List (S76)) _ _ l0_3 0 0 t2 _ ?side1 ?side2 ?side3 ?side4 ?side5 ?side6 A5.out).mono ?_); (case side1 => exact Kd.C_nil _ _); (case side2 => exact Nat.le_refl _); (case side3 => exact Kd.C_nil _ _); (case side4 => exact Nat.le_refl _); (case side5 => repeat (first | exact (Kd.C_below HR0_3.out HB.out) | (with_reducible refine Kd.C_alloc ?_ _) | (with_reducible refine Kd.C_drewN ?_ _) | (with_reducible refine Kd.C_drew ?_))); (case side6 => exact HC0_3.out); rintro e w8 ⟨rfl, hb⟩; replace BK1 := bkB BK1 hb; replace HB := hbS HB hb; (try clear hb)))
  go_ret
  exact ⟨by first | rfl | (simp [errW_none, errW_some] <;> rfl) | (simp [*, errW_none, errW_some] <;> rfl), hbW HB⟩

end Go.Proofs.Ytgelpccjdndfoaa.P

namespace Go.Proofs.Ytgelpccjdndfoaa.P
open Go.RowKit Go.Proofs.YtgelpccjdndfoaaW.PrintWords Go.Proofs.YtgelpccjdndfoaaW.PrintLast Go.Proofs.YtgelpccjdndfoaaW.PrintMore
attribute [local go_sem] max2_int min2_int max_two min_two max_three min_three max_four min_four
set_option linter.unusedVariables false
set_option linter.unusedSimpArgs false

/-! ### dragomanlaw12_ActOrder: function 7 -/
mutual
def q18z.j0 : Nat → Bool → Int → Int → List Int → List (S53) → Int → Int → List Int → List (S53) → Int → Int → List Int → List Int → Int → Int → Int → Int → Option (Bool)
 | 0, _, _, _, _, _, _, _, _, _, _, _, _, _, _, _, _, _ => none
 | k + 1, x18, x2000, x2001, x2002, x2003, x3000, x3001, x3002, x3003, x4000, x4001, x4002, x4003, x4004, x4005, x4006, x4007 => if x18 = true then (some true) else (if x2000 = x3000 then (q18z.j1 k true x2000 x2001 x2002 x2003 x3000 x3001 x3002 x3003 x4000 x4001 x4002 x4003 x4004 x4005 x4006 x4007) else (if x2000 ≥ 6 then (q18z.j1 k (decide (x3000 ≥ 6)) x2000 x2001 x2002 x2003 x3000 x3001 x3002 x3003 x4000 x4001 x4002 x4003 x4004 x4005 x4006 x4007) else (q18z.j1 k false x2000 x2001 x2002 x2003 x3000 x3001 x3002 x3003 x4000 x4001 x4002 x4003 x4004 x4005 x4006 x4007)))
def q18z.j1 : Nat → Bool → Int → Int → List Int → List (S53) → Int → Int → List Int → List (S53) → Int → Int → List Int → List Int → Int → Int → Int → Int → Option (Bool)
 | 0, _, _, _, _, _, _, _, _, _, _, _, _, _, _, _, _, _ => none
 | k + 1, x33, x2000, x2001, x2002, x2003, x3000, x3001, x3002, x3003, x4000, x4001, x4002, x4003, x4004, x4005, x4006, x4007 => if x33 = true then (some true) else ((q12z.f k (([(⟨x2000, x2001, x2002, x2003⟩ : S26), (⟨x3000, x3001, x3002, x3003⟩ : S26)] : List (S26))) x4000 x4001 x4002 x4003 x4004 x4005 x4006 x4007).bind fun bt11 => ((q12z.f k (([(⟨x3000, x3001, x3002, x3003⟩ : S26), (⟨x2000, x2001, x2002, x2003⟩ : S26)] : List (S26))) x4000 x4001 x4002 x4003 x4004 x4005 x4006 x4007).bind fun bt26 => ((q4z.f k bt11.1 bt11.2.1 bt11.2.2.1 bt11.2.2.2.1 bt11.2.2.2.2.1 bt11.2.2.2.2.2.1 bt11.2.2.2.2.2.2.1 bt11.2.2.2.2.2.2.2 bt26.1 bt26.2.1 bt26.2.2.1 bt26.2.2.2.1 bt26.2.2.2.2.1 bt26.2.2.2.2.2.1 bt26.2.2.2.2.2.2.1 bt26.2.2.2.2.2.2.2).bind fun t38 => (some (t38 == 0)))))
end
def q18z.f (k : Nat) (a0_0 : Int) (a0_1 : Int) (l0_2 : List Int) (l0_3 : List (S53)) (a1_0 : Int) (a1_1 : Int) (l1_2 : List Int) (l1_3 : List (S53)) (a2_0 : Int) (a2_1 : Int) (l2_2 : List Int) (l2_3 : List Int) (a2_4 : Int) (a2_5 : Int) (a2_6 : Int) (a2_7 : Int) : Option (Bool) := (q14z.f k).bind fun t4 => (if t4 = true then ((q17z.f k a0_0 a0_1 l0_2 l0_3).bind fun t5 => (if t5 = true then (q18z.j0 k true a0_0 a0_1 l0_2 l0_3 a1_0 a1_1 l1_2 l1_3 a2_0 a2_1 l2_2 l2_3 a2_4 a2_5 a2_6 a2_7) else ((q17z.f k a1_0 a1_1 l1_2 l1_3).bind fun t6 => (if t6 = true then (q18z.j0 k true a0_0 a0_1 l0_2 l0_3 a1_0 a1_1 l1_2 l1_3 a2_0 a2_1 l2_2 l2_3 a2_4 a2_5 a2_6 a2_7) else ((q1z.f a2_0 a2_1 l2_2 l2_3 a2_4 a2_5 a2_6 a2_7).bind fun t7 => (q18z.j0 k t7 a0_0 a0_1 l0_2 l0_3 a1_0 a1_1 l1_2 l1_3 a2_0 a2_1 l2_2 l2_3 a2_4 a2_5 a2_6 a2_7)))))) else (some false))
theorem q18z.mono_l : ∀ k, (∀ y0 y1 y2 y3 y4 y5 y6 y7 y8 y9 y10 y11 y12 y13 y14 y15 y16, LeO (q18z.j0 k y0 y1 y2 y3 y4 y5 y6 y7 y8 y9 y10 y11 y12 y13 y14 y15 y16) (q18z.j0 (k + 1) y0 y1 y2 y3 y4 y5 y6 y7 y8 y9 y10 y11 y12 y13 y14 y15 y16)) ∧ (∀ y0 y1 y2 y3 y4 y5 y6 y7 y8 y9 y10 y11 y12 y13 y14 y15 y16, LeO (q18z.j1 k y0 y1 y2 y3 y4 y5 y6 y7 y8 y9 y10 y11 y12 y13 y14 y15 y16) (q18z.j1 (k + 1) y0 y1 y2 y3 y4 y5 y6 y7 y8 y9 y10 y11 y12 y13 y14 y15 y16))
 | 0 => ⟨fun _ _ _ _ _ _ _ _ _ _ _ _ _ _ _ _ _ r h => by simp [q18z.j0] at h, fun _ _ _ _ _ _ _ _ _ _ _ _ _ _ _ _ _ r h => by simp [q18z.j1] at h⟩
 | k + 1 => by
  obtain ⟨ih0, ih1⟩ := q18z.mono_l k
  refine ⟨?_, ?_⟩
  ·
   intro y0 y1 y2 y3 y4 y5 y6 y7 y8 y9 y10 y11 y12 y13 y14 y15 y16
   unfold q18z.j0
   repeat' first
   | (with_reducible exact ih0 _ _ _ _ _ _ _ _ _ _ _ _ _ _ _ _ _)
   | (with_reducible exact ih1 _ _ _ _ _ _ _ _ _ _ _ _ _ _ _ _ _)
   | (with_reducible exact q12z.mono _ _ _ _ _ _ _ _ _ _)
   | (with_reducible exact q14z.mono _)
   | (with_reducible exact q4z.mono _ _ _ _ _ _ _ _ _ _ _ _ _ _ _ _ _)
   | (with_reducible exact q17z.mono _ _ _ _ _)
   | (with_reducible exact LeO.refl _)
   | (with_reducible exact LeO.none _)
   | (with_reducible refine LeO.ite ?_ ?_)
   | (with_reducible refine LeO.bind ?_ (fun _ => ?_))
   | exact ih0 _ _ _ _ _ _ _ _ _ _ _ _ _ _ _ _ _
   | exact ih1 _ _ _ _ _ _ _ _ _ _ _ _ _ _ _ _ _
   | exact q12z.mono _ _ _ _ _ _ _ _ _ _
   | exact q14z.mono _
   | exact q4z.mono _ _ _ _ _ _ _ _ _ _ _ _ _ _ _ _ _
   | exact q17z.mono _ _ _ _ _
   | exact LeO.none _
   | refine LeO.ite ?_ ?_
   | refine LeO.bind ?_ (fun _ => ?_)
  ·
   intro y0 y1 y2 y3 y4 y5 y6 y7 y8 y9 y10 y11 y12 y13 y14 y15 y16
   unfold q18z.j1
   repeat' first
   | (with_reducible exact ih0 _ _ _ _ _ _ _ _ _ _ _ _ _ _ _ _ _)
   | (with_reducible exact ih1 _ _ _ _ _ _ _ _ _ _ _ _ _ _ _ _ _)
   | (with_reducible exact q12z.mono _ _ _ _ _ _ _ _ _ _)
   | (with_reducible exact q14z.mono _)
   | (with_reducible exact q4z.mono _ _ _ _ _ _ _ _ _ _ _ _ _ _ _ _ _)
   | (with_reducible exact q17z.mono _ _ _ _ _)
   | (with_reducible exact LeO.refl _)
   | (with_reducible exact LeO.none _)
   | (with_reducible refine LeO.ite ?_ ?_)
   | (with_reducible refine LeO.bind ?_ (fun _ => ?_))
   | exact ih0 _ _ _ _ _ _ _ _ _ _ _ _ _ _ _ _ _
   | exact ih1 _ _ _ _ _ _ _ _ _ _ _ _ _ _ _ _ _
   | exact q12z.mono _ _ _ _ _ _ _ _ _ _
   | exact q14z.mono _
   | exact q4z.mono _ _ _ _ _ _ _ _ _ _ _ _ _ _ _ _ _
   | exact q17z.mono _ _ _ _ _
   | exact LeO.none _
   | refine LeO.ite ?_ ?_
   | refine LeO.bind ?_ (fun _ => ?_)
theorem q18z.mono : ∀ a0 a1 a2 a3 a4 a5 a6 a7 a8 a9 a10 a11 a12 a13 a14 a15 k, LeO (q18z.f k a0 a1 a2 a3 a4 a5 a6 a7 a8 a9 a10 a11 a12 a13 a14 a15) (q18z.f (k + 1) a0 a1 a2 a3 a4 a5 a6 a7 a8 a9 a10 a11 a12 a13 a14 a15) := by
 intro a0 a1 a2 a3 a4 a5 a6 a7 a8 a9 a10 a11 a12 a13 a14 a15 k
 obtain ⟨ih0, ih1⟩ := q18z.mono_l k
 unfold q18z.f
 repeat' first
   | (with_reducible exact ih0 _ _ _ _ _ _ _ _ _ _ _ _ _ _ _ _ _)
   | (with_reducible exact ih1 _ _ _ _ _ _ _ _ _ _ _ _ _ _ _ _ _)
   | (with_reducible exact q12z.mono _ _ _ _ _ _ _ _ _ _)
   | (with_reducible exact q14z.mono _)
   | (with_reducible exact q4z.mono _ _ _ _ _ _ _ _ _ _ _ _ _ _ _ _ _)
   | (with_reducible exact q17z.mono _ _ _ _ _)
   | (with_reducible exact LeO.refl _)
   | (with_reducible exact LeO.none _)
   | (with_reducible refine LeO.ite ?_ ?_)
   | (with_reducible refine LeO.bind ?_ (fun _ => ?_))
   | exact ih0 _ _ _ _ _ _ _ _ _ _ _ _ _ _ _ _ _
   | exact ih1 _ _ _ _ _ _ _ _ _ _ _ _ _ _ _ _ _
   | exact q12z.mono _ _ _ _ _ _ _ _ _ _
   | exact q14z.mono _
   | exact q4z.mono _ _ _ _ _ _ _ _ _ _ _ _ _ _ _ _ _
   | exact q17z.mono _ _ _ _ _
   | exact LeO.none _
   | refine LeO.ite ?_ ?_
   | refine LeO.bind ?_ (fun _ => ?_)
def q18z.T7 : Bool × List (List Nat × List Nat) := (true, [([], []), ([], []), ([0, 1], [0, 1]), ([], []), ([2, 3], [2, 3]), ([], []), ([], []), ([5, 6], [5, 6]), ([], []), ([7, 8, 4], [7, 8]), ([4, 9, 9], [4, 9]), ([10], [10]), ([11, 10, 0, 1, 2, 3, 4, 5, 6, 7, 8, 9, 10, 11], [11])])
def q18z.B7 : List Nat := [0, 0, 3, 0, 15, 0, 0, 96, 0, 511, 1023, 2047, 4095]
theorem q18z.tab7 : rtab .any (opsOf Try.f7 7) = q18z.T7 := by kernel_rfl
theorem q18z.bits7 : waitsOk q18z.T7.2 q18z.B7 = true := by kernel_rfl
set_option maxHeartbeats 8000000 in
set_option maxRecDepth 100000 in
theorem q18z.calls (k : Nat) (a0_0 : Int) (a0_1 : Int) (P0_2_ : Nat → Prop) (A0_2 : Option Addr) (c0_2 : Nat) (l0_2 : List Int) (P0_3_ : Nat → Prop) (A0_3 : Option Addr) (c0_3 : Nat) (l0_3 : List (S53)) (a1_0 : Int) (a1_1 : Int) (P1_2_ : Nat → Prop) (A1_2 : Option Addr) (c1_2 : Nat) (l1_2 : List Int) (P1_3_ : Nat → Prop) (A1_3 : Option Addr) (c1_3 : Nat) (l1_3 : List (S53)) (a2_0 : Int) (a2_1 : Int) (A2_2 : Option Addr) (c2_2 : Nat) (l2_2 : List Int) (A2_3 : Option Addr) (c2_3 : Nat) (l2_3 : List Int) (a2_4 : Int) (a2_5 : Int) (a2_6 : Int) (a2_7 : Int) (r : Bool) (w : World) (hs0_2 : Kd.V (Kd.int .u32) 22 w w.heap.size (fun k_ => P0_2_ k_) (.slice A0_2 l0_2.length c0_2) l0_2) (hs0_3 : Kd.V k53 53 w w.heap.size (fun k_ => P0_3_ k_) (.slice A0_3 l0_3.length c0_3) l0_3) (hs1_2 : Kd.V (Kd.int .u32) 22 w w.heap.size (fun k_ => P1_2_ k_) (.slice A1_2 l1_2.length c1_2) l1_2) (hs1_3 : Kd.V k53 53 w w.heap.size (fun k_ => P1_3_ k_) (.slice A1_3 l1_3.length c1_3) l1_3) (hr2_2 : Kd.C (Kd.int .u32) w A2_2 l2_2.length l2_2) (hc2_2 : l2_2.length ≤ c2_2) (hr2_3 : Kd.C (Kd.int .u32) w A2_3 l2_3.length l2_3) (hc2_3 : l2_3.length ≤ c2_3) (h : q18z.f k a0_0 a0_1 l0_2 l0_3 a1_0 a1_1 l1_2 l1_3 a2_0 a2_1 l2_2 l2_3 a2_4 a2_5 a2_6 a2_7 = some r) :
  Calls Try.prog 7 #[.agg #[.int .i64 a0_0, .int .u32 a0_1, .slice A0_2 l0_2.length c0_2, .slice A0_3 l0_3.length c0_3], .agg #[.int .i64 a1_0, .int .u32 a1_1, .slice A1_2 l1_2.length c1_2, .slice A1_3 l1_3.length c1_3], .agg #[.int .u32 a2_0, .int .i64 a2_1, .slice A2_2 l2_2.length c2_2, .slice A2_3 l2_3.length c2_3, .int .u32 a2_4, .int .u32 a2_5, .int .i64 a2_6, .int .u32 a2_7]] w fun e w' => e = .returned (.bool r) ∧ Below w.heap.size w w' := by
 have hu26 := Try.underlying26
 have hu30 := Try.underlying30
 have HO0_2 := Aside0.mk (show Kd.V (Kd.int .u32) 22 w w.heap.size (fun k_ => ((P0_2_ k_ ∨ P0_3_ k_ ∨ P1_2_ k_ ∨ P1_3_ k_) ∨ w.heap.size ≤ k_)) (.slice A0_2 l0_2.length c0_2) l0_2 from Kd.V_mono hs0_2 (fun k_ hk => .inl (.inl hk)))
 have HO0_3 := Aside0.mk (show Kd.V k53 53 w w.heap.size (fun k_ => ((P0_2_ k_ ∨ P0_3_ k_ ∨ P1_2_ k_ ∨ P1_3_ k_) ∨ w.heap.size ≤ k_)) (.slice A0_3 l0_3.length c0_3) l0_3 from Kd.V_mono hs0_3 (fun k_ hk => .inl (.inr (.inl hk))))
 have HO1_2 := Aside0.mk (show Kd.V (Kd.int .u32) 22 w w.heap.size (fun k_ => ((P0_2_ k_ ∨ P0_3_ k_ ∨ P1_2_ k_ ∨ P1_3_ k_) ∨ w.heap.size ≤ k_)) (.slice A1_2 l1_2.length c1_2) l1_2 from Kd.V_mono hs1_2 (fun k_ hk => .inl (.inr (.inr (.inl hk)))))
 have HO1_3 := Aside0.mk (show Kd.V k53 53 w w.heap.size (fun k_ => ((P0_2_ k_ ∨ P0_3_ k_ ∨ P1_2_ k_ ∨ P1_3_ k_) ∨ w.heap.size ≤ k_)) (.slice A1_3 l1_3.length c1_3) l1_3 from Kd.V_mono hs1_3 (fun k_ hk => .inl (.inr (.inr (.inr hk)))))
 have HR2_2 := Aside0.mk hr2_2
 have HC2_2 := Aside0.mk hc2_2
 clear hr2_2 hc2_2
 have HR2_3 := Aside0.mk hr2_3
 have HC2_3 := Aside0.mk hc2_3
 clear hr2_3 hc2_3
 have HB := Aside0.mk (Below.refl w.heap.size w)
 have H : ((q14z.f k).bind fun t4 => (if t4 = true then ((q17z.f k a0_0 a0_1 l0_2 l0_3).bind fun t5 => (if t5 = true then (q18z.j0 k true a0_0 a0_1 l0_2 l0_3 a1_0 a1_1 l1_2 l1_3 a2_0 a2_1 l2_2 l2_3 a2_4 a2_5 a2_6 a2_7) else ((q17z.f k a1_0 a1_1 l1_2 l1_3).bind fun t6 => (if t6 = true then (q18z.j0 k true a0_0 a0_1 l0_2 l0_3 a1_0 a1_1 l1_2 l1_3 a2_0 a2_1 l2_2 l2_3 a2_4 a2_5 a2_6 a2_7) else ((q1z.f a2_0 a2_1 l2_2 l2_3 a2_4 a2_5 a2_6 a2_7).bind fun t7 => (q18z.j0 k t7 a0_0 a0_1 l0_2 l0_3 a1_0 a1_1 l1_2 l1_3 a2_0 a2_1 l2_2 l2_3 a2_4 a2_5 a2_6 a2_7)))))) else (some false))) = some r := h
 clear h
 replace H := Option.bind_eq_some_iff.mp H
 obtain ⟨t4, A40, H⟩ := H
 replace H : (if t4 = true then ((q17z.f k a0_0 a0_1 l0_2 l0_3).bind fun t5 => (if t5 = true then (q18z.j0 k true a0_0 a0_1 l0_2 l0_3 a1_0 a1_1 l1_2 l1_3 a2_0 a2_1 l2_2 l2_3 a2_4 a2_5 a2_6 a2_7) else ((q17z.f k a1_0 a1_1 l1_2 l1_3).bind fun t6 => (if t6 = true then (q18z.j0 k true a0_0 a0_1 l0_2 l0_3 a1_0 a1_1 l1_2 l1_3 a2_0 a2_1 l2_2 l2_3 a2_4 a2_5 a2_6 a2_7) else ((q1z.f a2_0 a2_1 l2_2 l2_3 a2_4 a2_5 a2_6 a2_7).bind fun t7 => (q18z.j0 k t7 a0_0 a0_1 l0_2 l0_3 a1_0 a1_1 l1_2 l1_3 a2_0 a2_1 l2_2 l2_3 a2_4 a2_5 a2_6 a2_7)))))) else (some false)) = some r := H
 have A4 := Aside0.mk A40
 clear A40
 by_cases c5 : t4 = true
 ·
  subst c5
  have H1 : ((q17z.f k a0_0 a0_1 l0_2 l0_3).bind fun t5 => (if t5 = true then (q18z.j0 k true a0_0 a0_1 l0_2 l0_3 a1_0 a1_1 l1_2 l1_3 a2_0 a2_1 l2_2 l2_3 a2_4 a2_5 a2_6 a2_7) else ((q17z.f k a1_0 a1_1 l1_2 l1_3).bind fun t6 => (if t6 = true then (q18z.j0 k true a0_0 a0_1 l0_2 l0_3 a1_0 a1_1 l1_2 l1_3 a2_0 a2_1 l2_2 l2_3 a2_4 a2_5 a2_6 a2_7) else ((q1z.f a2_0 a2_1 l2_2 l2_3 a2_4 a2_5 a2_6 a2_7).bind fun t7 => (q18z.j0 k t7 a0_0 a0_1 l0_2 l0_3 a1_0 a1_1 l1_2 l1_3 a2_0 a2_1 l2_2 l2_3 a2_4 a2_5 a2_6 a2_7)))))) = some r := by rw [if_pos rfl] at H; exact H
  clear H
  have H := H1
  clear H1
  have HC6 := Aside0.mk H
  clear H
  go_enter Try.func7, Try.ntmps7
  go_upto_region 3 with (first | ((with_reducible refine gate_dst (N := 3) rfl ?_); refine box_event ?hg (N := 3) ?hd (cs := #[.int .i64 a0_0, .int .u32 a0_1, .slice A0_2 l0_2.length c0_2, .slice A0_3 l0_3.length c0_3]) (t := 26) ?hr ?_; (case hd => rfl); (case hg => rfl); (case hr => first | (go_simp; done) | (go_simp; rfl)); intro gb1 hg w7 hbox hb; have BK1 := Aside0.mk (hbox); have GW1 := Aside0.mk ((by rw [hg]; exact (below_size (hbW HB)) : w.heap.size ≤ gb1)); have GE1 := Aside0.mk ((by rw [hg]; exact (below_size (hbW HB)) : w.heap.size ≤ gb1)); replace HO0_2 := Aside0.mk (Kd.V_below (Kd.V_elderB (by (with_reducible repeat (first | apply Kd.V_alloc | apply Kd.V_drewN | apply Kd.V_drew)); exact HO0_2.out) gb1 (Nat.le_of_eq hg.symm)) hb); replace HO0_3 := Aside0.mk (Kd.V_below (Kd.V_elderB (by (with_reducible repeat (first | apply Kd.V_alloc | apply Kd.V_drewN | apply Kd.V_drew)); exact HO0_3.out) gb1 (Nat.le_of_eq hg.symm)) hb); replace HO1_2 := Aside0.mk (Kd.V_below (Kd.V_elderB (by (with_reducible repeat (first | apply Kd.V_alloc | apply Kd.V_drewN | apply Kd.V_drew)); exact HO1_2.out) gb1 (Nat.le_of_eq hg.symm)) hb); replace HO1_3 := Aside0.mk (Kd.V_below (Kd.V_elderB (by (with_reducible repeat (first | apply Kd.V_alloc | apply Kd.V_drewN | apply Kd.V_drew)); exact HO1_3.out) gb1 (Nat.le_of_eq hg.symm)) hb); replace HB := hbS HB hb; clear hb hbox hg) | ((with_reducible refine gate_dst (N := 4) rfl ?_); refine box_event ?hg (N := 4) ?hd (cs := #[.int .i64 a1_0, .int .u32 a1_1, .slice A1_2 l1_2.length c1_2, .slice A1_3 l1_3.length c1_3]) (t := 26) ?hr ?_; (case hd => rfl); (case hg => rfl); (case hr => first | (go_simp; done) | (go_simp; rfl)); intro gb2 hg w8 hbox hb; have BK2 := Aside0.mk (hbox); have GW2 := Aside0.mk ((by rw [hg]; exact (below_size (hbW HB)) : w.heap.size ≤ gb2)); have GE2 := Aside0.mk ((by rw [hg]; exact (below_size (hbW HB)) : w.heap.size ≤ gb2)); have NB1_2 := Aside0.mk ((by rw [hg]; exact Nat.ne_of_lt (blk_lt (bkW BK1)) : gb1 ≠ gb2)); have NB2_1 := Aside0.mk ((by rw [hg]; exact Nat.ne_of_gt (blk_lt (bkW BK1)) : gb2 ≠ gb1)); replace HO0_2 := Aside0.mk (Kd.V_below (Kd.V_elderB (by (with_reducible repeat (first | apply Kd.V_alloc | apply Kd.V_drewN | apply Kd.V_drew)); exact HO0_2.out) gb2 (Nat.le_of_eq hg.symm)) hb); replace HO0_3 := Aside0.mk (Kd.V_below (Kd.V_elderB (by (with_reducible repeat (first | apply Kd.V_alloc | apply Kd.V_drewN | apply Kd.V_drew)); exact HO0_3.out) gb2 (Nat.le_of_eq hg.symm)) hb); replace HO1_2 := Aside0.mk (Kd.V_below (Kd.V_elderB (by (with_reducible repeat (first | apply Kd.V_alloc | apply Kd.V_drewN | apply Kd.V_drew)); exact HO1_2.out) gb2 (Nat.le_of_eq hg.symm)) hb); replace HO1_3 := Aside0.mk (Kd.V_below (Kd.V_elderB (by (with_reducible repeat (first | apply Kd.V_alloc | apply Kd.V_drewN | apply Kd.V_drew)); exact HO1_3.out) gb2 (Nat.le_of_eq hg.symm)) hb); replace BK1 := bkB BK1 hb; replace HB := hbS HB hb; clear hb hbox hg) | ((with_reducible refine gate_dst (N := 5) rfl ?_); refine box_event ?hg (N := 5) ?hd (cs := #[.int .u32 a2_0, .int .i64 a2_1, .slice A2_2 l2_2.length c2_2, .slice A2_3 l2_3.length c2_3, .int .u32 a2_4, .int .u32 a2_5, .int .i64 a2_6, .int .u32 a2_7]) (t := 30) ?hr ?_; (case hd => rfl); (case hg => rfl); (case hr => first | (go_simp; done) | (go_simp; rfl)); intro gb3 hg w9 hbox hb; have BK3 := Aside0.mk (hbox); have GW3 := Aside0.mk ((by rw [hg]; exact (below_size (hbW HB)) : w.heap.size ≤ gb3)); have GE3 := Aside0.mk ((by rw [hg]; exact (below_size (hbW HB)) : w.heap.size ≤ gb3)); have NB1_3 := Aside0.mk ((by rw [hg]; exact Nat.ne_of_lt (blk_lt (bkW BK1)) : gb1 ≠ gb3)); have NB3_1 := Aside0.mk ((by rw [hg]; exact Nat.ne_of_gt (blk_lt (bkW BK1)) : gb3 ≠ gb1)); have NB2_3 := Aside0.mk ((by rw [hg]; exact Nat.ne_of_lt (blk_lt (bkW BK2)) : gb2 ≠ gb3)); have NB3_2 := Aside0.mk ((by rw [hg]; exact Nat.ne_of_gt (blk_lt (bkW BK2)) : gb3 ≠ gb2)); replace HO0_2 := Aside0.mk (Kd.V_below (Kd.V_elderB (by (with_reducible repeat (first | apply Kd.V_alloc | apply Kd.V_drewN | apply Kd.V_drew)); exact HO0_2.out) gb3 (Nat.le_of_eq hg.symm)) hb); replace HO0_3 := Aside0.mk (Kd.V_below (Kd.V_elderB (by (with_reducible repeat (first | apply Kd.V_alloc | apply Kd.V_drewN | apply Kd.V_drew)); exact HO0_3.out) gb3 (Nat.le_of_eq hg.symm)) hb); replace HO1_2 := Aside0.mk (Kd.V_below (Kd.V_elderB (by (with_reducible repeat (first | apply Kd.V_alloc | apply Kd.V_drewN | apply Kd.V_drew)); exact HO1_2.out) gb3 (Nat.le_of_eq hg.symm)) hb); replace HO1_3 := Aside0.mk (Kd.V_below (Kd.V_elderB (by (with_reducible repeat (first | apply Kd.V_alloc | apply Kd.V_drewN | apply Kd.V_drew)); exact HO1_3.out) gb3 (Nat.le_of_eq hg.symm)) hb); replace BK1 := bkB BK1 hb; replace BK2 := bkB BK2 hb; replace HB := hbS HB hb; clear hb hbox hg) | ((with_reducible refine gate_callee (f := 8) rfl ?_); refine goesL_ (some 7) rfl rfl Try.func8 (by kernel_rfl) rfl #[] rfl (by (try simp only [List.map_toArray, List.map_cons, List.map_nil]); first | done | rfl | (simp only [List.length_drop, List.length_take]; rfl)) ?_; (with_reducible refine (q14z.calls k  true _ A4.out).mono ?_); rintro e w10 ⟨rfl, hb⟩; refine ⟨_, rfl, ?_⟩; replace HO0_2 := Aside0.mk (Kd.V_below (by (with_reducible repeat (first | apply Kd.V_alloc | apply Kd.V_drewN | apply Kd.V_drew)); exact HO0_2.out) hb); replace HO0_3 := Aside0.mk (Kd.V_below (by (with_reducible repeat (first | apply Kd.V_alloc | apply Kd.V_drewN | apply Kd.V_drew)); exact HO0_3.out) hb); replace HO1_2 := Aside0.mk (Kd.V_below (by (with_reducible repeat (first | apply Kd.V_alloc | apply Kd.V_drewN | apply Kd.V_drew)); exact HO1_2.out) hb); replace HO1_3 := Aside0.mk (Kd.V_below (by (with_reducible repeat (first | apply Kd.V_alloc | apply Kd.V_drewN | apply Kd.V_drew)); exact HO1_3.out) hb); replace BK1 := bkB BK1 hb; replace BK2 := bkB BK2 hb; replace BK3 := bkB BK3 hb; replace HB := hbS HB hb; (try clear hb)))
  (try simp only [Act.put, List.setIfInBounds_toArray, List.set_cons_zero, List.set_cons_succ])
  go_cut [18] (fun v18 wc => ∃ (kq : Nat) (x18_5 : Bool), v18 = .bool x18_5 ∧ Aside0 (q18z.j0 kq x18_5 a0_0 a0_1 l0_2 l0_3 a1_0 a1_1 l1_2 l1_3 a2_0 a2_1 l2_2 l2_3 a2_4 a2_5 a2_6 a2_7 = some r) ∧ Aside0 (kq ≤ k) ∧ Aside0 (Kd.V (Kd.int .u32) 22 wc w.heap.size (fun k_ => ((P0_2_ k_ ∨ P0_3_ k_ ∨ P1_2_ k_ ∨ P1_3_ k_) ∨ w.heap.size ≤ k_) ∧ k_ ≠ gb1 ∧ k_ ≠ gb2 ∧ k_ ≠ gb3) (.slice A0_2 l0_2.length c0_2) l0_2) ∧ Aside0 (Kd.V k53 53 wc w.heap.size (fun k_ => ((P0_2_ k_ ∨ P0_3_ k_ ∨ P1_2_ k_ ∨ P1_3_ k_) ∨ w.heap.size ≤ k_) ∧ k_ ≠ gb1 ∧ k_ ≠ gb2 ∧ k_ ≠ gb3) (.slice A0_3 l0_3.length c0_3) l0_3) ∧ Aside0 (Kd.V (Kd.int .u32) 22 wc w.heap.size (fun k_ => ((P0_2_ k_ ∨ P0_3_ k_ ∨ P1_2_ k_ ∨ P1_3_ k_) ∨ w.heap.size ≤ k_) ∧ k_ ≠ gb1 ∧ k_ ≠ gb2 ∧ k_ ≠ gb3) (.slice A1_2 l1_2.length c1_2) l1_2) ∧ Aside0 (Kd.V k53 53 wc w.heap.size (fun k_ => ((P0_2_ k_ ∨ P0_3_ k_ ∨ P1_2_ k_ ∨ P1_3_ k_) ∨ w.heap.size ≤ k_) ∧ k_ ≠ gb1 ∧ k_ ≠ gb2 ∧ k_ ≠ gb3) (.slice A1_3 l1_3.length c1_3) l1_3) ∧ Aside0 (wc.heap[gb1]? = some (.cells #[.int .i64 a0_0, .int .u32 a0_1, (.slice A0_2 l0_2.length c0_2), (.slice A0_3 l0_3.length c0_3)] 26 (0, 0))) ∧ Aside0 (wc.heap[gb2]? = some (.cells #[.int .i64 a1_0, .int .u32 a1_1, (.slice A1_2 l1_2.length c1_2), (.slice A1_3 l1_3.length c1_3)] 26 (0, 0))) ∧ Aside0 (wc.heap[gb3]? = some (.cells #[.int .u32 a2_0, .int .i64 a2_1, (.slice A2_2 l2_2.length c2_2), (.slice A2_3 l2_3.length c2_3), .int .u32 a2_4, .int .u32 a2_5, .int .i64 a2_6, .int .u32 a2_7] 30 (0, 0))) ∧ Aside0 (Below w.heap.size w wc))
  case first =>
   have H := HC6.out
   clear HC6
   replace H := Option.bind_eq_some_iff.mp H
   obtain ⟨t5, A110, H⟩ := H
   replace H : (if t5 = true then (q18z.j0 k true a0_0 a0_1 l0_2 l0_3 a1_0 a1_1 l1_2 l1_3 a2_0 a2_1 l2_2 l2_3 a2_4 a2_5 a2_6 a2_7) else ((q17z.f k a1_0 a1_1 l1_2 l1_3).bind fun t6 => (if t6 = true then (q18z.j0 k true a0_0 a0_1 l0_2 l0_3 a1_0 a1_1 l1_2 l1_3 a2_0 a2_1 l2_2 l2_3 a2_4 a2_5 a2_6 a2_7) else ((q1z.f a2_0 a2_1 l2_2 l2_3 a2_4 a2_5 a2_6 a2_7).bind fun t7 => (q18z.j0 k t7 a0_0 a0_1 l0_2 l0_3 a1_0 a1_1 l1_2 l1_3 a2_0 a2_1 l2_2 l2_3 a2_4 a2_5 a2_6 a2_7))))) = some r := H
   have A11 := Aside0.mk A110
   clear A110
   by_cases c12 : t5 = true
   ·
    subst c12
    have H1 : (q18z.j0 k true a0_0 a0_1 l0_2 l0_3 a1_0 a1_1 l1_2 l1_3 a2_0 a2_1 l2_2 l2_3 a2_4 a2_5 a2_6 a2_7) = some r := by rw [if_pos rfl] at H; exact H
    clear H
    have H := H1
    clear H1
    have H' := Aside0.mk H
    clear H
    have hnb13 := NB1_2.out
    have hnc13 := NB2_1.out
    have hnb14 := NB1_3.out
    have hnc14 := NB3_1.out
    obtain ⟨hcz15_0, hcz15_1, hcz15_2, hcz15_3, hfz15_0, hfz15_1, hfz15_2, hfz15_3⟩ := bc4 BK1
    go_wp2_with (first | ((with_reducible refine gate_callee (f := 9) rfl ?_); refine goesL_ (some 10) rfl rfl Try.func9 (by kernel_rfl) rfl #[.agg #[.int .i64 a0_0, .int .u32 a0_1, .slice A0_2 l0_2.length c0_2, .slice A0_3 l0_3.length c0_3]] rfl (by (try simp only [List.map_toArray, List.map_cons, List.map_nil]); first | done | rfl | (simp only [List.length_drop, List.length_take]; rfl)) ?_; (with_reducible refine (q17z.calls k a0_0 a0_1 _ _ l0_2 _ _ l0_3 true _ ?side1 ?side2 ?side3 ?side4 A11.out).mono ?_); (case side1 => repeat (first | exact (Kd.V_reads' HO0_2.out).2.2 | (with_reducible refine Kd.C_alloc ?_ _) | (with_reducible refine Kd.C_drewN ?_ _) | (with_reducible refine Kd.C_drew ?_))); (case side2 => exact (Kd.V_reads' HO0_2.out).2.1); (case side3 => repeat (first | exact (Kd.V_reads' HO0_3.out).2.2 | (with_reducible refine Kd.C_alloc ?_ _) | (with_reducible refine Kd.C_drewN ?_ _) | (with_reducible refine Kd.C_drew ?_))); (case side4 => exact (Kd.V_reads' HO0_3.out).2.1); rintro e w16 ⟨rfl, hb⟩; refine ⟨_, rfl, ?_⟩; replace HO0_2 := Aside0.mk (Kd.V_below (by (with_reducible repeat (first | apply Kd.V_alloc | apply Kd.V_drewN | apply Kd.V_drew)); exact HO0_2.out) hb); replace HO0_3 := Aside0.mk (Kd.V_below (by (with_reducible repeat (first | apply Kd.V_alloc | apply Kd.V_drewN | apply Kd.V_drew)); exact HO0_3.out) hb); replace HO1_2 := Aside0.mk (Kd.V_below (by (with_reducible repeat (first | apply Kd.V_alloc | apply Kd.V_drewN | apply Kd.V_drew)); exact HO1_2.out) hb); replace HO1_3 := Aside0.mk (Kd.V_below (by (with_reducible repeat (first | apply Kd.V_alloc | apply Kd.V_drewN | apply Kd.V_drew)); exact HO1_3.out) hb); replace BK1 := bkB BK1 hb; replace BK2 := bkB BK2 hb; replace BK3 := bkB BK3 hb; replace HB := hbS HB hb; (try clear hb)))
    go_meet
    case rel => exact ⟨_, (true), (by first | rfl | (simp; done) | (simp [*]; done)), H', ⟨by first | omega | exact Nat.le_refl _⟩, ⟨by (with_reducible repeat (first | apply Kd.V_alloc | apply Kd.V_drewN | apply Kd.V_drew)); exact moV HO0_2.out⟩, ⟨by (with_reducible repeat (first | apply Kd.V_alloc | apply Kd.V_drewN | apply Kd.V_drew)); exact moV HO0_3.out⟩, ⟨by (with_reducible repeat (first | apply Kd.V_alloc | apply Kd.V_drewN | apply Kd.V_drew)); exact moV HO1_2.out⟩, ⟨by (with_reducible repeat (first | apply Kd.V_alloc | apply Kd.V_drewN | apply Kd.V_drew)); exact moV HO1_3.out⟩, ⟨by (with_reducible repeat (first | refine blk_drewN ?_ _ | refine blk_drew ?_ | refine blk_alloc ?_ _)); exact BK1.out⟩, ⟨by (with_reducible repeat (first | refine blk_drewN ?_ _ | refine blk_drew ?_ | refine blk_alloc ?_ _)); exact BK2.out⟩, ⟨by (with_reducible repeat (first | refine blk_drewN ?_ _ | refine blk_drew ?_ | refine blk_alloc ?_ _)); exact BK3.out⟩, ⟨hbW HB⟩⟩
   ·
    replace c12 := Bool.eq_false_iff.mpr c12
    subst c12
    have H1 : ((q17z.f k a1_0 a1_1 l1_2 l1_3).bind fun t6 => (if t6 = true then (q18z.j0 k true a0_0 a0_1 l0_2 l0_3 a1_0 a1_1 l1_2 l1_3 a2_0 a2_1 l2_2 l2_3 a2_4 a2_5 a2_6 a2_7) else ((q1z.f a2_0 a2_1 l2_2 l2_3 a2_4 a2_5 a2_6 a2_7).bind fun t7 => (q18z.j0 k t7 a0_0 a0_1 l0_2 l0_3 a1_0 a1_1 l1_2 l1_3 a2_0 a2_1 l2_2 l2_3 a2_4 a2_5 a2_6 a2_7)))) = some r := by rw [if_neg (show ¬ (false = true) by decide)] at H; exact H
    clear H
    have H := H1
    clear H1
    replace H := Option.bind_eq_some_iff.mp H
    obtain ⟨t6, A170, H⟩ := H
    replace H : (if t6 = true then (q18z.j0 k true a0_0 a0_1 l0_2 l0_3 a1_0 a1_1 l1_2 l1_3 a2_0 a2_1 l2_2 l2_3 a2_4 a2_5 a2_6 a2_7) else ((q1z.f a2_0 a2_1 l2_2 l2_3 a2_4 a2_5 a2_6 a2_7).bind fun t7 => (q18z.j0 k t7 a0_0 a0_1 l0_2 l0_3 a1_0 a1_1 l1_2 l1_3 a2_0 a2_1 l2_2 l2_3 a2_4 a2_5 a2_6 a2_7))) = some r := H
    have A17 := Aside0.mk A170
    clear A170
    by_cases c18 : t6 = true
    ·
     subst c18
     have H1 : (q18z.j0 k true a0_0 a0_1 l0_2 l0_3 a1_0 a1_1 l1_2 l1_3 a2_0 a2_1 l2_2 l2_3 a2_4 a2_5 a2_6 a2_7) = some r := by rw [if_pos rfl] at H; exact H
     clear H
     have H := H1
     clear H1
     have H' := Aside0.mk H
     clear H
     have hnb19 := NB1_2.out
     have hnc19 := NB2_1.out
     have hnb20 := NB1_3.out
     have hnc20 := NB3_1.out
     obtain ⟨hcz21_0, hcz21_1, hcz21_2, hcz21_3, hfz21_0, hfz21_1, hfz21_2, hfz21_3⟩ := bc4 BK1
     go_wp2_with (first | ((with_reducible refine gate_callee (f := 9) rfl ?_); refine goesL_ (some 10) rfl rfl Try.func9 (by kernel_rfl) rfl #[.agg #[.int .i64 a0_0, .int .u32 a0_1, .slice A0_2 l0_2.length c0_2, .slice A0_3 l0_3.length c0_3]] rfl (by (try simp only [List.map_toArray, List.map_cons, List.map_nil]); first | done | rfl | (simp only [List.length_drop, List.length_take]; rfl)) ?_; (with_reducible refine (q17z.calls k a0_0 a0_1 _ _ l0_2 _ _ l0_3 false _ ?side1 ?side2 ?side3 ?side4 A11.out).mono ?_); (case side1 => repeat (first | exact (Kd.V_reads' HO0_2.out).2.2 | (with_reducible refine Kd.C_alloc ?_ _) | (with_reducible refine Kd.C_drewN ?_ _) | (with_reducible refine Kd.C_drew ?_))); (case side2 => exact (Kd.V_reads' HO0_2.out).2.1); (case side3 => repeat (first | exact (Kd.V_reads' HO0_3.out).2.2 | (with_reducible refine Kd.C_alloc ?_ _) | (with_reducible refine Kd.C_drewN ?_ _) | (with_reducible refine Kd.C_drew ?_))); (case side4 => exact (Kd.V_reads' HO0_3.out).2.1); rintro e w22 ⟨rfl, hb⟩; refine ⟨_, rfl, ?_⟩; replace HO0_2 := Aside0.mk (Kd.V_below (by (with_reducible repeat (first | apply Kd.V_alloc | apply Kd.V_drewN | apply Kd.V_drew)); exact HO0_2.out) hb); replace HO0_3 := Aside0.mk (Kd.V_below (by (with_reducible repeat (first | apply Kd.V_alloc | apply Kd.V_drewN | apply Kd.V_drew)); exact HO0_3.out) hb); replace HO1_2 := Aside0.mk (Kd.V_below (by (with_reducible repeat (first | apply Kd.V_alloc | apply Kd.V_drewN | apply Kd.V_drew)); exact HO1_2.out) hb); replace HO1_3 := Aside0.mk (Kd.V_below (by (with_reducible repeat (first | apply Kd.V_alloc | apply Kd.V_drewN | apply Kd.V_drew)); exact HO1_3.out) hb); replace BK1 := bkB BK1 hb; replace BK2 := bkB BK2 hb; replace BK3 := bkB BK3 hb; replace HB := hbS HB hb; (try clear hb); have hnb23 := NB2_3.out; have hnc23 := NB3_2.out; obtain ⟨hcz24_0, hcz24_1, hcz24_2, hcz24_3, hfz24_0, hfz24_1, hfz24_2, hfz24_3⟩ := bc4 BK2) | (go_at_call 9; (with_reducible refine (q17z.calls k a1_0 a1_1 _ _ l1_2 _ _ l1_3 true _ ?side1 ?side2 ?side3 ?side4 A17.out).mono ?_); (case side1 => repeat (first | exact (Kd.V_reads' HO1_2.out).2.2 | (with_reducible refine Kd.C_alloc ?_ _) | (with_reducible refine Kd.C_drewN ?_ _) | (with_reducible refine Kd.C_drew ?_))); (case side2 => exact (Kd.V_reads' HO1_2.out).2.1); (case side3 => repeat (first | exact (Kd.V_reads' HO1_3.out).2.2 | (with_reducible refine Kd.C_alloc ?_ _) | (with_reducible refine Kd.C_drewN ?_ _) | (with_reducible refine Kd.C_drew ?_))); (case side4 => exact (Kd.V_reads' HO1_3.out).2.1); rintro e w25 ⟨rfl, hb⟩; replace HO0_2 := Aside0.mk (Kd.V_below (by (with_reducible repeat (first | apply Kd.V_alloc | apply Kd.V_drewN | apply Kd.V_drew)); exact HO0_2.out) hb); replace HO0_3 := Aside0.mk (Kd.V_below (by (with_reducible repeat (first | apply Kd.V_alloc | apply Kd.V_drewN | apply Kd.V_drew)); exact HO0_3.out) hb); replace HO1_2 := Aside0.mk (Kd.V_below (by (with_reducible repeat (first | apply Kd.V_alloc | apply Kd.V_drewN | apply Kd.V_drew)); exact HO1_2.out) hb); replace HO1_3 := Aside0.mk (Kd.V_below (by (with_reducible repeat (first | apply Kd.V_alloc | apply Kd.V_drewN | apply Kd.V_drew)); exact HO1_3.out) hb); replace BK1 := bkB BK1 hb; replace BK2 := bkB BK2 hb; replace BK3 := bkB BK3 hb; replace HB := hbS HB hb; (try clear hb)))
     go_meet
     case rel => exact ⟨_, (true), (by first | rfl | (simp; done) | (simp [*]; done)), H', ⟨by first | omega | exact Nat.le_refl _⟩, ⟨by (with_reducible repeat (first | apply Kd.V_alloc | apply Kd.V_drewN | apply Kd.V_drew)); exact moV HO0_2.out⟩, ⟨by (with_reducible repeat (first | apply Kd.V_alloc | apply Kd.V_drewN | apply Kd.V_drew)); exact moV HO0_3.out⟩, ⟨by (with_reducible repeat (first | apply Kd.V_alloc | apply Kd.V_drewN | apply Kd.V_drew)); exact moV HO1_2.out⟩, ⟨by (with_reducible repeat (first | apply Kd.V_alloc | apply Kd.V_drewN | apply Kd.V_drew)); exact moV HO1_3.out⟩, ⟨by (with_reducible repeat (first | refine blk_drewN ?_ _ | refine blk_drew ?_ | refine blk_alloc ?_ _)); exact BK1.out⟩, ⟨by (with_reducible repeat (first | refine blk_drewN ?_ _ | refine blk_drew ?_ | refine blk_alloc ?_ _)); exact BK2.out⟩, ⟨by (with_reducible repeat (first | refine blk_drewN ?_ _ | refine blk_drew ?_ | refine blk_alloc ?_ _)); exact BK3.out⟩, ⟨hbW HB⟩⟩
    ·
     replace c18 := Bool.eq_false_iff.mpr c18
     subst c18
     have H1 : ((q1z.f a2_0 a2_1 l2_2 l2_3 a2_4 a2_5 a2_6 a2_7).bind fun t7 => (q18z.j0 k t7 a0_0 a0_1 l0_2 l0_3 a1_0 a1_1 l1_2 l1_3 a2_0 a2_1 l2_2 l2_3 a2_4 a2_5 a2_6 a2_7)) = some r := by rw [if_neg (show ¬ (false = true) by decide)] at H; exact H
     clear H
     have H := H1
     clear H1
     replace H := Option.bind_eq_some_iff.mp H
     obtain ⟨t7, A260, H⟩ := H
     replace H : (q18z.j0 k t7 a0_0 a0_1 l0_2 l0_3 a1_0 a1_1 l1_2 l1_3 a2_0 a2_1 l2_2 l2_3 a2_4 a2_5 a2_6 a2_7) = some r := H
     have A26 := Aside0.mk A260
     clear A260
     have H' := Aside0.mk H
     clear H
     have hnb27 := NB1_2.out
     have hnc27 := NB2_1.out
     have hnb28 := NB1_3.out
     have hnc28 := NB3_1.out
     obtain ⟨hcz29_0, hcz29_1, hcz29_2, hcz29_3, hfz29_0, hfz29_1, hfz29_2, hfz29_3⟩ := bc4 BK1
     go_wp2_with (first | ((with_reducible refine gate_callee (f := 9) rfl ?_); refine goesL_ (some 10) rfl rfl Try.func9 (by kernel_rfl) rfl #[.agg #[.int .i64 a0_0, .int .u32 a0_1, .slice A0_2 l0_2.length c0_2, .slice A0_3 l0_3.length c0_3]] rfl (by (try simp only [List.map_toArray, List.map_cons, List.map_nil]); first | done | rfl | (simp only [List.length_drop, List.length_take]; rfl)) ?_; (with_reducible refine (q17z.calls k a0_0 a0_1 _ _ l0_2 _ _ l0_3 false _ ?side1 ?side2 ?side3 ?side4 A11.out).mono ?_); (case side1 => repeat (first | exact (Kd.V_reads' HO0_2.out).2.2 | (with_reducible refine Kd.C_alloc ?_ _) | (with_reducible refine Kd.C_drewN ?_ _) | (with_reducible refine Kd.C_drew ?_))); (case side2 => exact (Kd.V_reads' HO0_2.out).2.1); (case side3 => repeat (first | exact (Kd.V_reads' HO0_3.out).2.2 | (with_reducible refine Kd.C_alloc ?_ _) | (with_reducible refine Kd.C_drewN ?_ _) | (with_reducible refine Kd.C_drew ?_))); (case side4 => exact (Kd.V_reads' HO0_3.out).2.1); rintro e w30 ⟨rfl, hb⟩; refine ⟨_, rfl, ?_⟩; replace HO0_2 := Aside0.mk (Kd.V_below (by (with_reducible repeat (first | apply Kd.V_alloc | apply Kd.V_drewN | apply Kd.V_drew)); exact HO0_2.out) hb); replace HO0_3 := Aside0.mk (Kd.V_below (by (with_reducible repeat (first | apply Kd.V_alloc | apply Kd.V_drewN | apply Kd.V_drew)); exact HO0_3.out) hb); replace HO1_2 := Aside0.mk (Kd.V_below (by (with_reducible repeat (first | apply Kd.V_alloc | apply Kd.V_drewN | apply Kd.V_drew)); exact HO1_2.out) hb); replace HO1_3 := Aside0.mk (Kd.V_below (by (with_reducible repeat (first | apply Kd.V_alloc | apply Kd.V_drewN | apply Kd.V_drew)); exact HO1_3.out) hb); replace BK1 := bkB BK1 hb; replace BK2 := bkB BK2 hb; replace BK3 := bkB BK3 hb; replace HB := hbS HB hb; (try clear hb); have hnb31 := NB2_3.out; have hnc31 := NB3_2.out; obtain ⟨hcz32_0, hcz32_1, hcz32_2, hcz32_3, hfz32_0, hfz32_1, hfz32_2, hfz32_3⟩ := bc4 BK2) | (go_at_call 9; (with_reducible refine (q17z.calls k a1_0 a1_1 _ _ l1_2 _ _ l1_3 false _ ?side1 ?side2 ?side3 ?side4 A17.out).mono ?_); (case side1 => repeat (first | exact (Kd.V_reads' HO1_2.out).2.2 | (with_reducible refine Kd.C_alloc ?_ _) | (with_reducible refine Kd.C_drewN ?_ _) | (with_reducible refine Kd.C_drew ?_))); (case side2 => exact (Kd.V_reads' HO1_2.out).2.1); (case side3 => repeat (first | exact (Kd.V_reads' HO1_3.out).2.2 | (with_reducible refine Kd.C_alloc ?_ _) | (with_reducible refine Kd.C_drewN ?_ _) | (with_reducible refine Kd.C_drew ?_))); (case side4 => exact (Kd.V_reads' HO1_3.out).2.1); rintro e w33 ⟨rfl, hb⟩; replace HO0_2 := Aside0.mk (Kd.V_below (by (with_reducible repeat (first | apply Kd.V_alloc | apply Kd.V_drewN | apply Kd.V_drew)); exact HO0_2.out) hb); replace HO0_3 := Aside0.mk (Kd.V_below (by (with_reducible repeat (first | apply Kd.V_alloc | apply Kd.V_drewN | apply Kd.V_drew)); exact HO0_3.out) hb); replace HO1_2 := Aside0.mk (Kd.V_below (by (with_reducible repeat (first | apply Kd.V_alloc | apply Kd.V_drewN | apply Kd.V_drew)); exact HO1_2.out) hb); replace HO1_3 := Aside0.mk (Kd.V_below (by (with_reducible repeat (first | apply Kd.V_alloc | apply Kd.V_drewN | apply Kd.V_drew)); exact HO1_3.out) hb); replace BK1 := bkB BK1 hb; replace BK2 := bkB BK2 hb; replace BK3 := bkB BK3 hb; replace HB := hbS HB hb; (try clear hb); obtain ⟨hcz34_0, hcz34_1, hcz34_2, hcz34_3, hcz34_4, hcz34_5, hcz34_6, hcz34_7, hfz34_0, hfz34_1, hfz34_2, hfz34_3, hfz34_4, hfz34_5, hfz34_6, hfz34_7⟩ := bc8 BK3) | (go_at_call 10; (with_reducible refine (q1z.calls a2_0 a2_1 _ _ l2_2 _ _ l2_3 a2_4 a2_5 a2_6 a2_7 t7 _ ?side1 ?side2 ?side3 ?side4 A26.out).mono ?_); (case side1 => repeat (first | exact (Kd.C_below HR2_2.out HB.out) | (with_reducible refine Kd.C_alloc ?_ _) | (with_reducible refine Kd.C_drewN ?_ _) | (with_reducible refine Kd.C_drew ?_))); (case side2 => exact HC2_2.out); (case side3 => repeat (first | exact (Kd.C_below HR2_3.out HB.out) | (with_reducible refine Kd.C_alloc ?_ _) | (with_reducible refine Kd.C_drewN ?_ _) | (with_reducible refine Kd.C_drew ?_))); (case side4 => exact HC2_3.out); rintro e w35 ⟨rfl, hb⟩; replace HO0_2 := Aside0.mk (Kd.V_below (by (with_reducible repeat (first | apply Kd.V_alloc | apply Kd.V_drewN | apply Kd.V_drew)); exact HO0_2.out) hb); replace HO0_3 := Aside0.mk (Kd.V_below (by (with_reducible repeat (first | apply Kd.V_alloc | apply Kd.V_drewN | apply Kd.V_drew)); exact HO0_3.out) hb); replace HO1_2 := Aside0.mk (Kd.V_below (by (with_reducible repeat (first | apply Kd.V_alloc | apply Kd.V_drewN | apply Kd.V_drew)); exact HO1_2.out) hb); replace HO1_3 := Aside0.mk (Kd.V_below (by (with_reducible repeat (first | apply Kd.V_alloc | apply Kd.V_drewN | apply Kd.V_drew)); exact HO1_3.out) hb); replace BK1 := bkB BK1 hb; replace BK2 := bkB BK2 hb; replace BK3 := bkB BK3 hb; replace HB := hbS HB hb; (try clear hb)))
     go_meet
     case rel => exact ⟨_, (t7), (by first | rfl | (simp; done) | (simp [*]; done)), H', ⟨by first | omega | exact Nat.le_refl _⟩, ⟨by (with_reducible repeat (first | apply Kd.V_alloc | apply Kd.V_drewN | apply Kd.V_drew)); exact moV HO0_2.out⟩, ⟨by (with_reducible repeat (first | apply Kd.V_alloc | apply Kd.V_drewN | apply Kd.V_drew)); exact moV HO0_3.out⟩, ⟨by (with_reducible repeat (first | apply Kd.V_alloc | apply Kd.V_drewN | apply Kd.V_drew)); exact moV HO1_2.out⟩, ⟨by (with_reducible repeat (first | apply Kd.V_alloc | apply Kd.V_drewN | apply Kd.V_drew)); exact moV HO1_3.out⟩, ⟨by (with_reducible repeat (first | refine blk_drewN ?_ _ | refine blk_drew ?_ | refine blk_alloc ?_ _)); exact BK1.out⟩, ⟨by (with_reducible repeat (first | refine blk_drewN ?_ _ | refine blk_drew ?_ | refine blk_alloc ?_ _)); exact BK2.out⟩, ⟨by (with_reducible repeat (first | refine blk_drewN ?_ _ | refine blk_drew ?_ | refine blk_alloc ?_ _)); exact BK3.out⟩, ⟨hbW HB⟩⟩
  case rest =>
   clear HC6
   try clear c1
   try clear c2
   try clear p2
   try clear c3
   try clear c5
   try clear c7
   try clear c8
   try clear c9
   try clear c12
   try clear c13
   try clear c14
   try clear c18
   try clear c19
   try clear c20
   try clear c23
   try clear c27
   try clear c28
   try clear c31
   obtain ⟨kq, x18_5, rfl, HA, HJ5, HO_2002, HO_2003, HO_3002, HO_3003, BK1, BK2, BK3, HB⟩ := hcut
   cases kq with
   | zero => exact absurd HA.out (by simp [q18z.j0])
   | succ kj5 =>
    have H := HA.out
    clear HA
    simp only [q18z.j0] at H
    by_cases c36 : x18_5 = true
    ·
     subst c36
     have H1 : (some true) = some r := by rw [if_pos rfl] at H; exact H
     clear H
     have H := H1
     clear H1
     obtain rfl := Option.some.inj H
     go_wp2
     go_ret
     exact ⟨by first | rfl | (simp [errW_none, errW_some] <;> rfl) | (simp [*, errW_none, errW_some] <;> rfl), hbW HB⟩
    ·
     replace c36 := Bool.eq_false_iff.mpr c36
     subst c36
     have H1 : (if a0_0 = a1_0 then (q18z.j1 kj5 true a0_0 a0_1 l0_2 l0_3 a1_0 a1_1 l1_2 l1_3 a2_0 a2_1 l2_2 l2_3 a2_4 a2_5 a2_6 a2_7) else (if a0_0 ≥ 6 then (q18z.j1 kj5 (decide (a1_0 ≥ 6)) a0_0 a0_1 l0_2 l0_3 a1_0 a1_1 l1_2 l1_3 a2_0 a2_1 l2_2 l2_3 a2_4 a2_5 a2_6 a2_7) else (q18z.j1 kj5 false a0_0 a0_1 l0_2 l0_3 a1_0 a1_1 l1_2 l1_3 a2_0 a2_1 l2_2 l2_3 a2_4 a2_5 a2_6 a2_7))) = some r := by rw [if_neg (show ¬ (false = true) by decide)] at H; exact H
     clear H
     have H := H1
     clear H1
     have HC37 := Aside0.mk H
     clear H
     go_upto_region 5 with (fail)
     go_cut [33] (fun v33 wc => ∃ (kq : Nat) (x33_36 : Bool), v33 = .bool x33_36 ∧ Aside0 (q18z.j1 kq x33_36 a0_0 a0_1 l0_2 l0_3 a1_0 a1_1 l1_2 l1_3 a2_0 a2_1 l2_2 l2_3 a2_4 a2_5 a2_6 a2_7 = some r) ∧ Aside0 (kq ≤ kj5) ∧ Aside0 (Kd.V (Kd.int .u32) 22 wc w.heap.size (fun k_ => ((P0_2_ k_ ∨ P0_3_ k_ ∨ P1_2_ k_ ∨ P1_3_ k_) ∨ w.heap.size ≤ k_) ∧ k_ ≠ gb1 ∧ k_ ≠ gb2 ∧ k_ ≠ gb3) (.slice A0_2 l0_2.length c0_2) l0_2) ∧ Aside0 (Kd.V k53 53 wc w.heap.size (fun k_ => ((P0_2_ k_ ∨ P0_3_ k_ ∨ P1_2_ k_ ∨ P1_3_ k_) ∨ w.heap.size ≤ k_) ∧ k_ ≠ gb1 ∧ k_ ≠ gb2 ∧ k_ ≠ gb3) (.slice A0_3 l0_3.length c0_3) l0_3) ∧ Aside0 (Kd.V (Kd.int .u32) 22 wc w.heap.size (fun k_ => ((P0_2_ k_ ∨ P0_3_ k_ ∨ P1_2_ k_ ∨ P1_3_ k_) ∨ w.heap.size ≤ k_) ∧ k_ ≠ gb1 ∧ k_ ≠ gb2 ∧ k_ ≠ gb3) (.slice A1_2 l1_2.length c1_2) l1_2) ∧ Aside0 (Kd.V k53 53 wc w.heap.size (fun k_ => ((P0_2_ k_ ∨ P0_3_ k_ ∨ P1_2_ k_ ∨ P1_3_ k_) ∨ w.heap.size ≤ k_) ∧ k_ ≠ gb1 ∧ k_ ≠ gb2 ∧ k_ ≠ gb3) (.slice A1_3 l1_3.length c1_3) l1_3) ∧ Aside0 (wc.heap[gb1]? = some (.cells #[.int .i64 a0_0, .int .u32 a0_1, (.slice A0_2 l0_2.length c0_2), (.slice A0_3 l0_3.length c0_3)] 26 (0, 0))) ∧ Aside0 (wc.heap[gb2]? = some (.cells #[.int .i64 a1_0, .int .u32 a1_1, (.slice A1_2 l1_2.length c1_2), (.slice A1_3 l1_3.length c1_3)] 26 (0, 0))) ∧ Aside0 (wc.heap[gb3]? = some (.cells #[.int .u32 a2_0, .int .i64 a2_1, (.slice A2_2 l2_2.length c2_2), (.slice A2_3 l2_3.length c2_3), .int .u32 a2_4, .int .u32 a2_5, .int .i64 a2_6, .int .u32 a2_7] 30 (0, 0))) ∧ Aside0 (Below w.heap.size w wc))
     case first =>
      have H := HC37.out
      clear HC37
      by_cases c38 : a0_0 = a1_0
      ·
       rw [if_pos c38] at H
       have c38b0 : (a0_0 == a1_0) = true := beq_iff_eq.mpr c38
       have c38b1 : (a0_0 != a1_0) = false := bne_eq_false_iff_eq.mpr c38
       clear c38
       (first | rw [c38b0] | (simp only [i64_w, i32_w, IntKind.wrap_u32]; rw [c38b0]) | skip)
       have H' := Aside0.mk H
       clear H
       have hnb39 := NB1_2.out
       have hnc39 := NB2_1.out
       have hnb40 := NB1_3.out
       have hnc40 := NB3_1.out
       obtain ⟨hcz41_0, hcz41_1, hcz41_2, hcz41_3, hfz41_0, hfz41_1, hfz41_2, hfz41_3⟩ := bc4 BK1
       have hnb42 := NB2_3.out
       have hnc42 := NB3_2.out
       obtain ⟨hcz43_0, hcz43_1, hcz43_2, hcz43_3, hfz43_0, hfz43_1, hfz43_2, hfz43_3⟩ := bc4 BK2
       go_wp2
       go_meet
       case rel => exact ⟨_, (true), (by first | rfl | (simp; done) | (simp [*]; done)), H', ⟨by have := HJ5.out; first | omega | exact Nat.le_refl _⟩, ⟨by (with_reducible repeat (first | apply Kd.V_alloc | apply Kd.V_drewN | apply Kd.V_drew)); exact HO_2002.out⟩, ⟨by (with_reducible repeat (first | apply Kd.V_alloc | apply Kd.V_drewN | apply Kd.V_drew)); exact HO_2003.out⟩, ⟨by (with_reducible repeat (first | apply Kd.V_alloc | apply Kd.V_drewN | apply Kd.V_drew)); exact HO_3002.out⟩, ⟨by (with_reducible repeat (first | apply Kd.V_alloc | apply Kd.V_drewN | apply Kd.V_drew)); exact HO_3003.out⟩, ⟨by (with_reducible repeat (first | refine blk_drewN ?_ _ | refine blk_drew ?_ | refine blk_alloc ?_ _)); exact BK1.out⟩, ⟨by (with_reducible repeat (first | refine blk_drewN ?_ _ | refine blk_drew ?_ | refine blk_alloc ?_ _)); exact BK2.out⟩, ⟨by (with_reducible repeat (first | refine blk_drewN ?_ _ | refine blk_drew ?_ | refine blk_alloc ?_ _)); exact BK3.out⟩, ⟨hbW HB⟩⟩
      ·
       rw [if_neg c38] at H
       have c38b0 : (a0_0 == a1_0) = false := beq_eq_false_iff_ne.mpr c38
       have c38b1 : (a0_0 != a1_0) = true := bne_iff_ne.mpr c38
       (first | rw [c38b0] | (simp only [i64_w, i32_w, IntKind.wrap_u32]; rw [c38b0]) | skip)
       by_cases c44 : a0_0 ≥ 6
       ·
        rw [if_pos c44] at H
        have c44b0 : decide (6 ≤ a0_0) = true := decide_eq_true c44
        clear c44
        have H' := Aside0.mk H
        clear H
        have hnb45 := NB1_2.out
        have hnc45 := NB2_1.out
        have hnb46 := NB1_3.out
        have hnc46 := NB3_1.out
        obtain ⟨hcz47_0, hcz47_1, hcz47_2, hcz47_3, hfz47_0, hfz47_1, hfz47_2, hfz47_3⟩ := bc4 BK1
        have hnb48 := NB2_3.out
        have hnc48 := NB3_2.out
        obtain ⟨hcz49_0, hcz49_1, hcz49_2, hcz49_3, hfz49_0, hfz49_1, hfz49_2, hfz49_3⟩ := bc4 BK2
        go_wp2
        go_meet
        case rel => exact ⟨_, (decide (a1_0 ≥ 6)), (by first | rfl | (simp; done) | (simp [*]; done)), H', ⟨by have := HJ5.out; first | omega | exact Nat.le_refl _⟩, ⟨by (with_reducible repeat (first | apply Kd.V_alloc | apply Kd.V_drewN | apply Kd.V_drew)); exact HO_2002.out⟩, ⟨by (with_reducible repeat (first | apply Kd.V_alloc | apply Kd.V_drewN | apply Kd.V_drew)); exact HO_2003.out⟩, ⟨by (with_reducible repeat (first | apply Kd.V_alloc | apply Kd.V_drewN | apply Kd.V_drew)); exact HO_3002.out⟩, ⟨by (with_reducible repeat (first | apply Kd.V_alloc | apply Kd.V_drewN | apply Kd.V_drew)); exact HO_3003.out⟩, ⟨by (with_reducible repeat (first | refine blk_drewN ?_ _ | refine blk_drew ?_ | refine blk_alloc ?_ _)); exact BK1.out⟩, ⟨by (with_reducible repeat (first | refine blk_drewN ?_ _ | refine blk_drew ?_ | refine blk_alloc ?_ _)); exact BK2.out⟩, ⟨by (with_reducible repeat (first | refine blk_drewN ?_ _ | refine blk_drew ?_ | refine blk_alloc ?_ _)); exact BK3.out⟩, ⟨hbW HB⟩⟩
       ·
        rw [if_neg c44] at H
        have c44b0 : decide (6 ≤ a0_0) = false := decide_eq_false c44
        clear c44
        have H' := Aside0.mk H
        clear H
        have hnb50 := NB1_2.out
        have hnc50 := NB2_1.out
        have hnb51 := NB1_3.out
        have hnc51 := NB3_1.out
        obtain ⟨hcz52_0, hcz52_1, hcz52_2, hcz52_3, hfz52_0, hfz52_1, hfz52_2, hfz52_3⟩ := bc4 BK1
        have hnb53 := NB2_3.out
        have hnc53 := NB3_2.out
        obtain ⟨hcz54_0, hcz54_1, hcz54_2, hcz54_3, hfz54_0, hfz54_1, hfz54_2, hfz54_3⟩ := bc4 BK2
        go_wp2
        go_meet
        case rel => exact ⟨_, (false), (by first | rfl | (simp; done) | (simp [*]; done)), H', ⟨by have := HJ5.out; first | omega | exact Nat.le_refl _⟩, ⟨by (with_reducible repeat (first | apply Kd.V_alloc | apply Kd.V_drewN | apply Kd.V_drew)); exact HO_2002.out⟩, ⟨by (with_reducible repeat (first | apply Kd.V_alloc | apply Kd.V_drewN | apply Kd.V_drew)); exact HO_2003.out⟩, ⟨by (with_reducible repeat (first | apply Kd.V_alloc | apply Kd.V_drewN | apply Kd.V_drew)); exact HO_3002.out⟩, ⟨by (with_reducible repeat (first | apply Kd.V_alloc | apply Kd.V_drewN | apply Kd.V_drew)); exact HO_3003.out⟩, ⟨by (with_reducible repeat (first | refine blk_drewN ?_ _ | refine blk_drew ?_ | refine blk_alloc ?_ _)); exact BK1.out⟩, ⟨by (with_reducible repeat (first | refine blk_drewN ?_ _ | refine blk_drew ?_ | refine blk_alloc ?_ _)); exact BK2.out⟩, ⟨by (with_reducible repeat (first | refine blk_drewN ?_ _ | refine blk_drew ?_ | refine blk_alloc ?_ _)); exact BK3.out⟩, ⟨hbW HB⟩⟩
     case rest =>
      clear HC37
      try clear c1
      try clear c2
      try clear p2
      try clear c3
      try clear c4
      try clear c5
      try clear c7
      try clear c8
      try clear c9
      try clear c12
      try clear c13
      try clear c14
      try clear c18
      try clear c19
      try clear c20
      try clear c23
      try clear c27
      try clear c28
      try clear c31
      try clear c36
      try clear c38
      try clear c38b0
      try clear c38b1
      try clear c39
      try clear c40
      try clear c42
      try clear c44
      try clear c44b0
      try clear c45
      try clear c46
      try clear c48
      try clear c50
      try clear c51
      try clear c53
      try clear hcz15_0
      try clear hcz15_1
      try clear hcz15_2
      try clear hcz15_3
      try clear hcz21_0
      try clear hcz21_1
      try clear hcz21_2
      try clear hcz21_3
      try clear hcz24_0
      try clear hcz24_1
      try clear hcz24_2
      try clear hcz24_3
      try clear hcz29_0
      try clear hcz29_1
      try clear hcz29_2
      try clear hcz29_3
      try clear hcz32_0
      try clear hcz32_1
      try clear hcz32_2
      try clear hcz32_3
      try clear hcz34_0
      try clear hcz34_1
      try clear hcz34_2
      try clear hcz34_3
      try clear hcz34_4
      try clear hcz34_5
      try clear hcz34_6
      try clear hcz34_7
      try clear hfz15_0
      try clear hfz15_1
      try clear hfz15_2
      try clear hfz15_3
      try clear hfz21_0
      try clear hfz21_1
      try clear hfz21_2
      try clear hfz21_3
      try clear hfz24_0
      try clear hfz24_1
      try clear hfz24_2
      try clear hfz24_3
      try clear hfz29_0
      try clear hfz29_1
      try clear hfz29_2
      try clear hfz29_3
      try clear hfz32_0
      try clear hfz32_1
      try clear hfz32_2
      try clear hfz32_3
      try clear hfz34_0
      try clear hfz34_1
      try clear hfz34_2
      try clear hfz34_3
      try clear hfz34_4
      try clear hfz34_5
      try clear hfz34_6
      try clear hfz34_7
      try clear p2
      obtain ⟨kq, x33_36, rfl, HA, HJ36, HO_2002, HO_2003, HO_3002, HO_3003, BK1, BK2, BK3, HB⟩ := hcut
      cases kq with
      | zero => exact absurd HA.out (by simp [q18z.j1])
      | succ kj36 =>
       have H := HA.out
       clear HA
       simp only [q18z.j1] at H
       by_cases c55 : x33_36 = true
       ·
        subst c55
        have H1 : (some true) = some r := by rw [if_pos rfl] at H; exact H
        clear H
        have H := H1
        clear H1
        obtain rfl := Option.some.inj H
        go_wp2
        go_ret
        exact ⟨by first | rfl | (simp [errW_none, errW_some] <;> rfl) | (simp [*, errW_none, errW_some] <;> rfl), hbW HB⟩
       ·
        replace c55 := Bool.eq_false_iff.mpr c55
        subst c55
        have H1 : ((q12z.f kj36 (([(⟨a0_0, a0_1, l0_2, l0_3⟩ : S26), (⟨a1_0, a1_1, l1_2, l1_3⟩ : S26)] : List (S26))) a2_0 a2_1 l2_2 l2_3 a2_4 a2_5 a2_6 a2_7).bind fun bt11 => ((q12z.f kj36 (([(⟨a1_0, a1_1, l1_2, l1_3⟩ : S26), (⟨a0_0, a0_1, l0_2, l0_3⟩ : S26)] : List (S26))) a2_0 a2_1 l2_2 l2_3 a2_4 a2_5 a2_6 a2_7).bind fun bt26 => ((q4z.f kj36 bt11.1 bt11.2.1 bt11.2.2.1 bt11.2.2.2.1 bt11.2.2.2.2.1 bt11.2.2.2.2.2.1 bt11.2.2.2.2.2.2.1 bt11.2.2.2.2.2.2.2 bt26.1 bt26.2.1 bt26.2.2.1 bt26.2.2.2.1 bt26.2.2.2.2.1 bt26.2.2.2.2.2.1 bt26.2.2.2.2.2.2.1 bt26.2.2.2.2.2.2.2).bind fun t38 => (some (t38 == 0))))) = some r := by rw [if_neg (show ¬ (false = true) by decide)] at H; exact H
        clear H
        have H := H1
        clear H1
        obtain ⟨y8, hy8⟩ : ∃ y_ : List (S26), y_ = (([(⟨a0_0, a0_1, l0_2, l0_3⟩ : S26), (⟨a1_0, a1_1, l1_2, l1_3⟩ : S26)] : List (S26))) := ⟨_, rfl⟩
        replace H : ((q12z.f kj36 y8 a2_0 a2_1 l2_2 l2_3 a2_4 a2_5 a2_6 a2_7).bind fun bt11 => ((q12z.f kj36 (([(⟨a1_0, a1_1, l1_2, l1_3⟩ : S26), (⟨a0_0, a0_1, l0_2, l0_3⟩ : S26)] : List (S26))) a2_0 a2_1 l2_2 l2_3 a2_4 a2_5 a2_6 a2_7).bind fun bt26 => ((q4z.f kj36 bt11.1 bt11.2.1 bt11.2.2.1 bt11.2.2.2.1 bt11.2.2.2.2.1 bt11.2.2.2.2.2.1 bt11.2.2.2.2.2.2.1 bt11.2.2.2.2.2.2.2 bt26.1 bt26.2.1 bt26.2.2.1 bt26.2.2.2.1 bt26.2.2.2.2.1 bt26.2.2.2.2.2.1 bt26.2.2.2.2.2.2.1 bt26.2.2.2.2.2.2.2).bind fun t38 => (some (t38 == 0))))) = some r := by first | (rw [hy8]; with_reducible exact H) | (have H2_ := (Option.bind_some _ _).symm.trans H; rw [hy8]; with_reducible exact H2_) | (have H2_ := (Option.bind_some _ _).symm.trans H; with_reducible exact H2_) | with_reducible exact H | (rw [hy8]; exact H) | exact H
        have Ny8 := Aside0.mk hy8
        clear hy8
        replace H := Option.bind_eq_some_iff.mp H
        obtain ⟨⟨t11, t12, t13, t16, t19, t20, t21, t22⟩, A560, H⟩ := H
        replace H : ((q12z.f kj36 (([(⟨a1_0, a1_1, l1_2, l1_3⟩ : S26), (⟨a0_0, a0_1, l0_2, l0_3⟩ : S26)] : List (S26))) a2_0 a2_1 l2_2 l2_3 a2_4 a2_5 a2_6 a2_7).bind fun bt26 => ((q4z.f kj36 t11 t12 t13 t16 t19 t20 t21 t22 bt26.1 bt26.2.1 bt26.2.2.1 bt26.2.2.2.1 bt26.2.2.2.2.1 bt26.2.2.2.2.2.1 bt26.2.2.2.2.2.2.1 bt26.2.2.2.2.2.2.2).bind fun t38 => (some (t38 == 0)))) = some r := H
        have A56 := Aside0.mk A560
        clear A560
        obtain ⟨y23, hy23⟩ : ∃ y_ : List (S26), y_ = (([(⟨a1_0, a1_1, l1_2, l1_3⟩ : S26), (⟨a0_0, a0_1, l0_2, l0_3⟩ : S26)] : List (S26))) := ⟨_, rfl⟩
        replace H : ((q12z.f kj36 y23 a2_0 a2_1 l2_2 l2_3 a2_4 a2_5 a2_6 a2_7).bind fun bt26 => ((q4z.f kj36 t11 t12 t13 t16 t19 t20 t21 t22 bt26.1 bt26.2.1 bt26.2.2.1 bt26.2.2.2.1 bt26.2.2.2.2.1 bt26.2.2.2.2.2.1 bt26.2.2.2.2.2.2.1 bt26.2.2.2.2.2.2.2).bind fun t38 => (some (t38 == 0)))) = some r := by first | (rw [hy23]; with_reducible exact H) | (have H2_ := (Option.bind_some _ _).symm.trans H; rw [hy23]; with_reducible exact H2_) | (have H2_ := (Option.bind_some _ _).symm.trans H; with_reducible exact H2_) | with_reducible exact H | (rw [hy23]; exact H) | exact H
        have Ny23 := Aside0.mk hy23
        clear hy23
        replace H := Option.bind_eq_some_iff.mp H
        obtain ⟨⟨t26, t27, t28, t31, t34, t35, t36, t37⟩, A570, H⟩ := H
        replace H : ((q4z.f kj36 t11 t12 t13 t16 t19 t20 t21 t22 t26 t27 t28 t31 t34 t35 t36 t37).bind fun t38 => (some (t38 == 0))) = some r := H
        have A57 := Aside0.mk A570
        clear A570
        replace H := Option.bind_eq_some_iff.mp H
        obtain ⟨t38, A580, H⟩ := H
        replace H : (some (t38 == 0)) = some r := H
        have A58 := Aside0.mk A580
        clear A580
        obtain rfl := Option.some.inj H
        try go_wp2
        replace HO_2002 := Aside0.mk (Kd.V_drew HO_2002.out)
        replace HO_2003 := Aside0.mk (Kd.V_drew HO_2003.out)
        replace HO_3002 := Aside0.mk (Kd.V_drew HO_3002.out)
        replace HO_3003 := Aside0.mk (Kd.V_drew HO_3003.out)
        replace BK1 := Aside0.mk (blk_drew BK1.out)
        replace BK2 := Aside0.mk (blk_drew BK2.out)
        replace BK3 := Aside0.mk (blk_drew BK3.out)
        replace HB := Aside0.mk (below_drew1 HB.out)
        refine start_ (n := 13) (S := fun w' => True) (ds := []) #[false, false, false, false, false, false, false, false, false, false, false, false, false] (by kernel_rfl) rfl rfl trivial (fun hHeld => ?_); refine with_tabW q18z.tab7 q18z.bits7 (fun HT_ HW_ => ?_)
        generalize wc.drew = w59 at HO_2002 HO_2003 HO_3002 HO_3003 BK1 BK2 BK3 HB hHeld ⊢
        refine inv_at [0, 1, 2, 3, 4, 5, 6, 7, 8, 9, 10, 11, 12] (fun a0_ b a w' => ∃ (v9 : Value) (v14 : Value) (v17 : Value) (v24 : Value) (v29 : Value) (v32 : Value) (m4_ : Value) (m9_ : Value), a = putSel a0_ b [(0, 34, .agg #[.int .i64 a0_0, .int .u32 a0_1, .slice A0_2 l0_2.length c0_2, .slice A0_3 l0_3.length c0_3]), (1, 35, .agg #[.int .i64 a1_0, .int .u32 a1_1, .slice A1_2 l1_2.length c1_2, .slice A1_3 l1_3.length c1_3]), (2, 36, v9), (3, 37, .agg #[.int .u32 a2_0, .int .i64 a2_1, .slice A2_2 l2_2.length c2_2, .slice A2_3 l2_3.length c2_3, .int .u32 a2_4, .int .u32 a2_5, .int .i64 a2_6, .int .u32 a2_7]), (4, 38, m4_), (5, 39, .agg #[.int .i64 a1_0, .int .u32 a1_1, .slice A1_2 l1_2.length c1_2, .slice A1_3 l1_3.length c1_3]), (6, 40, .agg #[.int .i64 a0_0, .int .u32 a0_1, .slice A0_2 l0_2.length c0_2, .slice A0_3 l0_3.length c0_3]), (7, 41, v24), (8, 42, .agg #[.int .u32 a2_0, .int .i64 a2_1, .slice A2_2 l2_2.length c2_2, .slice A2_3 l2_3.length c2_3, .int .u32 a2_4, .int .u32 a2_5, .int .i64 a2_6, .int .u32 a2_7]), (9, 43, m9_), (10, 44, .int .i64 t38), (11, 45, .bool (t38 == 0)), (12, 6, .bool (t38 == 0))] ∧ (Kd.V (Kd.int .u32) 22 w' w.heap.size (fun k_ => ((P0_2_ k_ ∨ P0_3_ k_ ∨ P1_2_ k_ ∨ P1_3_ k_) ∨ w.heap.size ≤ k_) ∧ k_ ≠ gb1 ∧ k_ ≠ gb2 ∧ k_ ≠ gb3) (.slice A0_2 l0_2.length c0_2) l0_2) ∧ (Kd.V k53 53 w' w.heap.size (fun k_ => ((P0_2_ k_ ∨ P0_3_ k_ ∨ P1_2_ k_ ∨ P1_3_ k_) ∨ w.heap.size ≤ k_) ∧ k_ ≠ gb1 ∧ k_ ≠ gb2 ∧ k_ ≠ gb3) (.slice A0_3 l0_3.length c0_3) l0_3) ∧ (Kd.V (Kd.int .u32) 22 w' w.heap.size (fun k_ => ((P0_2_ k_ ∨ P0_3_ k_ ∨ P1_2_ k_ ∨ P1_3_ k_) ∨ w.heap.size ≤ k_) ∧ k_ ≠ gb1 ∧ k_ ≠ gb2 ∧ k_ ≠ gb3) (.slice A1_2 l1_2.length c1_2) l1_2) ∧ (Kd.V k53 53 w' w.heap.size (fun k_ => ((P0_2_ k_ ∨ P0_3_ k_ ∨ P1_2_ k_ ∨ P1_3_ k_) ∨ w.heap.size ≤ k_) ∧ k_ ≠ gb1 ∧ k_ ≠ gb2 ∧ k_ ≠ gb3) (.slice A1_3 l1_3.length c1_3) l1_3) ∧ (w'.heap[gb1]? = some (.cells #[.int .i64 a0_0, .int .u32 a0_1, .slice A0_2 l0_2.length c0_2, .slice A0_3 l0_3.length c0_3] 26 (0, 0))) ∧ (w'.heap[gb2]? = some (.cells #[.int .i64 a1_0, .int .u32 a1_1, .slice A1_2 l1_2.length c1_2, .slice A1_3 l1_3.length c1_3] 26 (0, 0))) ∧ (w'.heap[gb3]? = some (.cells #[.int .u32 a2_0, .int .i64 a2_1, .slice A2_2 l2_2.length c2_2, .slice A2_3 l2_3.length c2_3, .int .u32 a2_4, .int .u32 a2_5, .int .i64 a2_6, .int .u32 a2_7] 30 (0, 0))) ∧ (Below w.heap.size w w') ∧ (b 2 = true → Kd.N k26 26 w' w.heap.size (fun k_ => ((P0_2_ k_ ∨ P0_3_ k_ ∨ P1_2_ k_ ∨ P1_3_ k_) ∨ w.heap.size ≤ k_) ∧ k_ ≠ gb1 ∧ k_ ≠ gb2 ∧ k_ ≠ gb3) v9 y8) ∧ (b 4 = true → Kd.R (Kd.int .u32) 22 w' w.heap.size (fun k_ => (w.heap.size ≤ k_)) v14 t13) ∧ (b 4 = true → Kd.R (Kd.int .u32) 22 w' w.heap.size (fun k_ => (w.heap.size ≤ k_)) v17 t16) ∧ (b 7 = true → Kd.N k26 26 w' w.heap.size (fun k_ => ((P0_2_ k_ ∨ P0_3_ k_ ∨ P1_2_ k_ ∨ P1_3_ k_) ∨ w.heap.size ≤ k_) ∧ k_ ≠ gb1 ∧ k_ ≠ gb2 ∧ k_ ≠ gb3) v24 y23) ∧ (b 9 = true → Kd.R (Kd.int .u32) 22 w' w.heap.size (fun k_ => (w.heap.size ≤ k_)) v29 t28) ∧ (b 9 = true → Kd.R (Kd.int .u32) 22 w' w.heap.size (fun k_ => (w.heap.size ≤ k_)) v32 t31) ∧ (b 4 = true → (m4_ : Value) = .agg #[.int .u32 t11, .int .i64 t12, v14, v17, .int .u32 t19, .int .u32 t20, .int .i64 t21, .int .u32 t22]) ∧ (b 9 = true → (m9_ : Value) = .agg #[.int .u32 t26, .int .i64 t27, v29, v32, .int .u32 t34, .int .u32 t35, .int .i64 t36, .int .u32 t37])) HT_.out HW_.out (by kernel_rfl) (by kernel_rfl) ?_ ?_ ?_
        ·
         exact ⟨.bool false, .bool false, .bool false, .bool false, .bool false, .bool false, .bool false, .bool false, by simp only [putSel, Bool.false_eq_true, if_false], HO_2002.out, HO_2003.out, HO_3002.out, HO_3003.out, BK1.out, BK2.out, BK3.out, HB.out, fun h_ => absurd h_ (by decide), fun h_ => absurd h_ (by decide), fun h_ => absurd h_ (by decide), fun h_ => absurd h_ (by decide), fun h_ => absurd h_ (by decide), fun h_ => absurd h_ (by decide), fun h_ => absurd h_ (by decide), fun h_ => absurd h_ (by decide)⟩
        ·
         skip
         clear BK1 BK2 BK3 HB HO_2002 HO_2003 HO_3002 HO_3003
         refine steps_cons ?_ ?_
         ·
          rintro b a w' ⟨v9, v14, v17, v24, v29, v32, m4_, m9_, ha, Q_HO_2002, Q_HO_2003, Q_HO_3002, Q_HO_3003, Q_BK1, Q_BK2, Q_BK3, Q_HB, Q_HO10, Q_HO15, Q_HO18, Q_HO25, Q_HO30, Q_HO33, Q_X4_, Q_X9_⟩ hb_ hon hoff
          refine ⟨_, rfl, fun K hK => ?_⟩
          have e3 : a.tmps[3]? = some (.pointer (some ⟨gb1, 0, none⟩)) := by rw [ha]; exact (putSel_off rfl).trans rfl
          replace ha := Aside0.mk ha
          have HO_2002 := Aside0.mk Q_HO_2002
          have HO_2003 := Aside0.mk Q_HO_2003
          have HO_3002 := Aside0.mk Q_HO_3002
          have HO_3003 := Aside0.mk Q_HO_3003
          have BK1 := Aside0.mk Q_BK1
          have BK2 := Aside0.mk Q_BK2
          have BK3 := Aside0.mk Q_BK3
          have HB := Aside0.mk Q_HB
          have hc0_ : w'.cell? ⟨gb1, 0, none⟩ = some (.int .i64 a0_0) := (blk_cell BK1.out 0).trans rfl
          have hc1_ : w'.cell? ⟨gb1, 1, none⟩ = some (.int .u32 a0_1) := (blk_cell BK1.out 1).trans rfl
          have hc2_ : w'.cell? ⟨gb1, 2, none⟩ = some (.slice A0_2 l0_2.length c0_2) := (blk_cell BK1.out 2).trans rfl
          have hc3_ : w'.cell? ⟨gb1, 3, none⟩ = some (.slice A0_3 l0_3.length c0_3) := (blk_cell BK1.out 3).trans rfl
          refine value_ (w1 := w') (v := .agg #[.int .i64 a0_0, .int .u32 a0_1, .slice A0_2 l0_2.length c0_2, .slice A0_3 l0_3.length c0_3]) (by rfl) rfl ?_ ?_
          ·
           go_simp
           (try simp only [i64_w])
           try rfl
          refine hK.out _ _ ⟨v9, v14, v17, v24, v29, v32, m4_, m9_, (by rw [ha.out]; exact putSel_upk 0 hb_ rfl rfl rfl), Q_HO_2002, Q_HO_2003, Q_HO_3002, Q_HO_3003, Q_BK1, Q_BK2, Q_BK3, Q_HB, fun h0_ => absurd ((hoff 2 (by kernel_rfl)).symm.trans h0_) (by decide), fun h0_ => absurd ((hoff 4 (by kernel_rfl)).symm.trans h0_) (by decide), fun h0_ => absurd ((hoff 4 (by kernel_rfl)).symm.trans h0_) (by decide), Q_HO25, fun h0_ => absurd ((hoff 9 (by kernel_rfl)).symm.trans h0_) (by decide), fun h0_ => absurd ((hoff 9 (by kernel_rfl)).symm.trans h0_) (by decide), fun h0_ => absurd ((hoff 4 (by kernel_rfl)).symm.trans h0_) (by decide), fun h0_ => absurd ((hoff 9 (by kernel_rfl)).symm.trans h0_) (by decide)⟩
         refine steps_cons ?_ ?_
         ·
          rintro b a w' ⟨v9, v14, v17, v24, v29, v32, m4_, m9_, ha, Q_HO_2002, Q_HO_2003, Q_HO_3002, Q_HO_3003, Q_BK1, Q_BK2, Q_BK3, Q_HB, Q_HO10, Q_HO15, Q_HO18, Q_HO25, Q_HO30, Q_HO33, Q_X4_, Q_X9_⟩ hb_ hon hoff
          refine ⟨_, rfl, fun K hK => ?_⟩
          have e4 : a.tmps[4]? = some (.pointer (some ⟨gb2, 0, none⟩)) := by rw [ha]; exact (putSel_off rfl).trans rfl
          replace ha := Aside0.mk ha
          have HO_2002 := Aside0.mk Q_HO_2002
          have HO_2003 := Aside0.mk Q_HO_2003
          have HO_3002 := Aside0.mk Q_HO_3002
          have HO_3003 := Aside0.mk Q_HO_3003
          have BK1 := Aside0.mk Q_BK1
          have BK2 := Aside0.mk Q_BK2
          have BK3 := Aside0.mk Q_BK3
          have HB := Aside0.mk Q_HB
          have hc0_ : w'.cell? ⟨gb2, 0, none⟩ = some (.int .i64 a1_0) := (blk_cell BK2.out 0).trans rfl
          have hc1_ : w'.cell? ⟨gb2, 1, none⟩ = some (.int .u32 a1_1) := (blk_cell BK2.out 1).trans rfl
          have hc2_ : w'.cell? ⟨gb2, 2, none⟩ = some (.slice A1_2 l1_2.length c1_2) := (blk_cell BK2.out 2).trans rfl
          have hc3_ : w'.cell? ⟨gb2, 3, none⟩ = some (.slice A1_3 l1_3.length c1_3) := (blk_cell BK2.out 3).trans rfl
          refine value_ (w1 := w') (v := .agg #[.int .i64 a1_0, .int .u32 a1_1, .slice A1_2 l1_2.length c1_2, .slice A1_3 l1_3.length c1_3]) (by rfl) rfl ?_ ?_
          ·
           go_simp
           (try simp only [i64_w])
           try rfl
          refine hK.out _ _ ⟨v9, v14, v17, v24, v29, v32, m4_, m9_, (by rw [ha.out]; exact putSel_upk 1 hb_ rfl rfl rfl), Q_HO_2002, Q_HO_2003, Q_HO_3002, Q_HO_3003, Q_BK1, Q_BK2, Q_BK3, Q_HB, fun h0_ => absurd ((hoff 2 (by kernel_rfl)).symm.trans h0_) (by decide), fun h0_ => absurd ((hoff 4 (by kernel_rfl)).symm.trans h0_) (by decide), fun h0_ => absurd ((hoff 4 (by kernel_rfl)).symm.trans h0_) (by decide), Q_HO25, fun h0_ => absurd ((hoff 9 (by kernel_rfl)).symm.trans h0_) (by decide), fun h0_ => absurd ((hoff 9 (by kernel_rfl)).symm.trans h0_) (by decide), fun h0_ => absurd ((hoff 4 (by kernel_rfl)).symm.trans h0_) (by decide), fun h0_ => absurd ((hoff 9 (by kernel_rfl)).symm.trans h0_) (by decide)⟩
         refine steps_cons ?_ ?_
         ·
          rintro b a w' ⟨v9, v14, v17, v24, v29, v32, m4_, m9_, ha, Q_HO_2002, Q_HO_2003, Q_HO_3002, Q_HO_3003, Q_BK1, Q_BK2, Q_BK3, Q_HB, Q_HO10, Q_HO15, Q_HO18, Q_HO25, Q_HO30, Q_HO33, Q_X4_, Q_X9_⟩ hb_ hon hoff
          refine ⟨_, rfl, fun K hK => ?_⟩
          have e34 : a.tmps[34]? = some (.agg #[.int .i64 a0_0, .int .u32 a0_1, .slice A0_2 l0_2.length c0_2, .slice A0_3 l0_3.length c0_3]) := by rw [ha]; exact putSel_on (e := (0, 34, .agg #[.int .i64 a0_0, .int .u32 a0_1, .slice A0_2 l0_2.length c0_2, .slice A0_3 l0_3.length c0_3])) 0 rfl rfl (hon 0 (by kernel_rfl)) rfl
          have e35 : a.tmps[35]? = some (.agg #[.int .i64 a1_0, .int .u32 a1_1, .slice A1_2 l1_2.length c1_2, .slice A1_3 l1_3.length c1_3]) := by rw [ha]; exact putSel_on (e := (1, 35, .agg #[.int .i64 a1_0, .int .u32 a1_1, .slice A1_2 l1_2.length c1_2, .slice A1_3 l1_3.length c1_3])) 1 rfl rfl (hon 1 (by kernel_rfl)) rfl
          replace ha := Aside0.mk ha
          have HO_2002 := Aside0.mk Q_HO_2002
          have HO_2003 := Aside0.mk Q_HO_2003
          have HO_3002 := Aside0.mk Q_HO_3002
          have HO_3003 := Aside0.mk Q_HO_3003
          have BK1 := Aside0.mk Q_BK1
          have BK2 := Aside0.mk Q_BK2
          have BK3 := Aside0.mk Q_BK3
          have HB := Aside0.mk Q_HB
          refine Kd.N_lit_step k26 _ 26 ?hg (N' := 36) ?hd (xs := ([(⟨a0_0, a0_1, l0_2, l0_3⟩ : S26), (⟨a1_0, a1_1, l1_2, l1_3⟩ : S26)] : List (S26))) (inner := [.int .i64 a0_0, .int .u32 a0_1, .slice A0_2 l0_2.length c0_2, .slice A0_3 l0_3.length c0_3, .int .i64 a1_0, .int .u32 a1_1, .slice A1_2 l1_2.length c1_2, .slice A1_3 l1_3.length c1_3]) (ok := (fun k_ => ((P0_2_ k_ ∨ P0_3_ k_ ∨ P1_2_ k_ ∨ P1_3_ k_) ∨ w.heap.size ≤ k_) ∧ k_ ≠ gb1 ∧ k_ ≠ gb2 ∧ k_ ≠ gb3)) (okp := (fun k_ => ((P0_2_ k_ ∨ P0_3_ k_ ∨ P1_2_ k_ ∨ P1_3_ k_) ∨ w.heap.size ≤ k_) ∧ k_ ≠ gb1 ∧ k_ ≠ gb2 ∧ k_ ≠ gb3)) ?hr ?hp (fun _ hk => hk) ((show ∀ k_, w'.heap.size ≤ k_ → (fun k_ => ((P0_2_ k_ ∨ P0_3_ k_ ∨ P1_2_ k_ ∨ P1_3_ k_) ∨ w.heap.size ≤ k_) ∧ k_ ≠ gb1 ∧ k_ ≠ gb2 ∧ k_ ≠ gb3) k_ from fun k_ hk => ⟨(.inr (Nat.le_trans (below_size (hbW HB)) hk)), Kd.freshB (g := gb1) (o := .cells #[.int .i64 a0_0, .int .u32 a0_1, .slice A0_2 l0_2.length c0_2, .slice A0_3 l0_3.length c0_3] 26 (0, 0)) (bkW BK1) k_ hk, Kd.freshB (g := gb2) (o := .cells #[.int .i64 a1_0, .int .u32 a1_1, .slice A1_2 l1_2.length c1_2, .slice A1_3 l1_3.length c1_3] 26 (0, 0)) (bkW BK2) k_ hk, Kd.freshB (g := gb3) (o := .cells #[.int .u32 a2_0, .int .i64 a2_1, .slice A2_2 l2_2.length c2_2, .slice A2_3 l2_3.length c2_3, .int .u32 a2_4, .int .u32 a2_5, .int .i64 a2_6, .int .u32 a2_7] 30 (0, 0)) (bkW BK3) k_ hk⟩) _ (Nat.le_refl _)) (Below.refl _ _) (Nat.le_refl _) (by simp) ?_; (case hd => rfl); (case hg => rfl); (case hr => first | (go_simp; done) | (go_simp; rfl)); (case hp => exact (Reps.c4 (show Kd.FK k26 _ _ (⟨a0_0, a0_1, l0_2, l0_3⟩ : S26) [.int .i64 a0_0, .int .u32 a0_1, .slice A0_2 l0_2.length c0_2, .slice A0_3 l0_3.length c0_3] from (k26_mkF _ _ (⟨a0_0, a0_1, l0_2, l0_3⟩ : S26) (Kd.V_reads' (Kd.V_mono (ok' := (fun k_ => ((P0_2_ k_ ∨ P0_3_ k_ ∨ P1_2_ k_ ∨ P1_3_ k_) ∨ w.heap.size ≤ k_) ∧ k_ ≠ gb1 ∧ k_ ≠ gb2 ∧ k_ ≠ gb3)) (HO_2002.out) (fun k_ hk => ⟨hk.1, ⟨hk.2.1, ⟨hk.2.2.1, hk.2.2.2⟩⟩⟩))).2.1 (Kd.V_F (Kd.V_mono (ok' := (fun k_ => ((P0_2_ k_ ∨ P0_3_ k_ ∨ P1_2_ k_ ∨ P1_3_ k_) ∨ w.heap.size ≤ k_) ∧ k_ ≠ gb1 ∧ k_ ≠ gb2 ∧ k_ ≠ gb3)) (HO_2002.out) (fun k_ hk => ⟨hk.1, ⟨hk.2.1, ⟨hk.2.2.1, hk.2.2.2⟩⟩⟩))) (Kd.V_reads' (Kd.V_mono (ok' := (fun k_ => ((P0_2_ k_ ∨ P0_3_ k_ ∨ P1_2_ k_ ∨ P1_3_ k_) ∨ w.heap.size ≤ k_) ∧ k_ ≠ gb1 ∧ k_ ≠ gb2 ∧ k_ ≠ gb3)) (HO_2003.out) (fun k_ hk => ⟨hk.1, ⟨hk.2.1, ⟨hk.2.2.1, hk.2.2.2⟩⟩⟩))).2.1 (Kd.V_F (Kd.V_mono (ok' := (fun k_ => ((P0_2_ k_ ∨ P0_3_ k_ ∨ P1_2_ k_ ∨ P1_3_ k_) ∨ w.heap.size ≤ k_) ∧ k_ ≠ gb1 ∧ k_ ≠ gb2 ∧ k_ ≠ gb3)) (HO_2003.out) (fun k_ hk => ⟨hk.1, ⟨hk.2.1, ⟨hk.2.2.1, hk.2.2.2⟩⟩⟩))))) (Reps.c4 (show Kd.FK k26 _ _ (⟨a1_0, a1_1, l1_2, l1_3⟩ : S26) [.int .i64 a1_0, .int .u32 a1_1, .slice A1_2 l1_2.length c1_2, .slice A1_3 l1_3.length c1_3] from (k26_mkF _ _ (⟨a1_0, a1_1, l1_2, l1_3⟩ : S26) (Kd.V_reads' (Kd.V_mono (ok' := (fun k_ => ((P0_2_ k_ ∨ P0_3_ k_ ∨ P1_2_ k_ ∨ P1_3_ k_) ∨ w.heap.size ≤ k_) ∧ k_ ≠ gb1 ∧ k_ ≠ gb2 ∧ k_ ≠ gb3)) (HO_3002.out) (fun k_ hk => ⟨hk.1, ⟨hk.2.1, ⟨hk.2.2.1, hk.2.2.2⟩⟩⟩))).2.1 (Kd.V_F (Kd.V_mono (ok' := (fun k_ => ((P0_2_ k_ ∨ P0_3_ k_ ∨ P1_2_ k_ ∨ P1_3_ k_) ∨ w.heap.size ≤ k_) ∧ k_ ≠ gb1 ∧ k_ ≠ gb2 ∧ k_ ≠ gb3)) (HO_3002.out) (fun k_ hk => ⟨hk.1, ⟨hk.2.1, ⟨hk.2.2.1, hk.2.2.2⟩⟩⟩))) (Kd.V_reads' (Kd.V_mono (ok' := (fun k_ => ((P0_2_ k_ ∨ P0_3_ k_ ∨ P1_2_ k_ ∨ P1_3_ k_) ∨ w.heap.size ≤ k_) ∧ k_ ≠ gb1 ∧ k_ ≠ gb2 ∧ k_ ≠ gb3)) (HO_3003.out) (fun k_ hk => ⟨hk.1, ⟨hk.2.1, ⟨hk.2.2.1, hk.2.2.2⟩⟩⟩))).2.1 (Kd.V_F (Kd.V_mono (ok' := (fun k_ => ((P0_2_ k_ ∨ P0_3_ k_ ∨ P1_2_ k_ ∨ P1_3_ k_) ∨ w.heap.size ≤ k_) ∧ k_ ≠ gb1 ∧ k_ ≠ gb2 ∧ k_ ≠ gb3)) (HO_3003.out) (fun k_ hk => ⟨hk.1, ⟨hk.2.1, ⟨hk.2.2.1, hk.2.2.2⟩⟩⟩))))) (Reps.none _ _))))
          intro v9 w60 ho61 hb hg_ hnew_
          clear hg_ hnew_
          (first | rw [← Ny8.out] at ho61 | (simp only [Int.reduceToNat] at ho61; rw [← Ny8.out] at ho61))
          have n0_ := Aside0.mk (Kd.V_elder' (by (with_reducible repeat (first | apply Kd.V_alloc | apply Kd.V_drewN | apply Kd.V_drew)); exact HO_2002.out) (Kd.N_base ho61) hb)
          have n1_ := Aside0.mk (Kd.V_elder' (by (with_reducible repeat (first | apply Kd.V_alloc | apply Kd.V_drewN | apply Kd.V_drew)); exact HO_2003.out) (Kd.N_base ho61) hb)
          have n2_ := Aside0.mk (Kd.V_elder' (by (with_reducible repeat (first | apply Kd.V_alloc | apply Kd.V_drewN | apply Kd.V_drew)); exact HO_3002.out) (Kd.N_base ho61) hb)
          have n3_ := Aside0.mk (Kd.V_elder' (by (with_reducible repeat (first | apply Kd.V_alloc | apply Kd.V_drewN | apply Kd.V_drew)); exact HO_3003.out) (Kd.N_base ho61) hb)
          have n4_ := Aside0.mk (Kd.N_lower ho61 (below_size (hbW HB)))
          have n5_ := bkB BK1 hb
          have n6_ := bkB BK2 hb
          have n7_ := bkB BK3 hb
          have n8_ := hbS HB hb
          have z_HO25 := fun (h0_ : b 7 = true) => (show Kd.N k26 26 w60 w.heap.size (fun k_ => ((P0_2_ k_ ∨ P0_3_ k_ ∨ P1_2_ k_ ∨ P1_3_ k_) ∨ w.heap.size ≤ k_) ∧ k_ ≠ gb1 ∧ k_ ≠ gb2 ∧ k_ ≠ gb3) v24 y23 from by first | exact (Kd.N_elder' (by (with_reducible repeat (first | apply Kd.N_alloc | apply Kd.N_drewN | apply Kd.N_drew)); exact (Q_HO25 h0_)) (Kd.N_base ho61) hb) | exact Kd.N_mono (Kd.N_elder' (by (with_reducible repeat (first | apply Kd.N_alloc | apply Kd.N_drewN | apply Kd.N_drew)); exact (Q_HO25 h0_)) (Kd.N_base ho61) hb) (fun _ h_ => by first | trivial | exact h_ | exact h_.1))
          clear HO_2002 HO_2003 HO_3002 HO_3003 BK1 BK2 BK3 HB
          have HO_2002 := n0_
          have HO_2003 := n1_
          have HO_3002 := n2_
          have HO_3003 := n3_
          have HO10 := n4_
          have BK1 := n5_
          have BK2 := n6_
          have BK3 := n7_
          have HB := n8_
          clear n0_ n1_ n2_ n3_ n4_ n5_ n6_ n7_ n8_ hb ho61
          refine hK.out _ _ ⟨v9, v14, v17, v24, v29, v32, m4_, m9_, (by rw [ha.out]; exact putSel_upk 2 hb_ rfl rfl rfl), (by (with_reducible repeat (first | apply Kd.V_alloc | apply Kd.V_drewN | apply Kd.V_drew)); exact moV HO_2002.out), (by (with_reducible repeat (first | apply Kd.V_alloc | apply Kd.V_drewN | apply Kd.V_drew)); exact moV HO_2003.out), (by (with_reducible repeat (first | apply Kd.V_alloc | apply Kd.V_drewN | apply Kd.V_drew)); exact moV HO_3002.out), (by (with_reducible repeat (first | apply Kd.V_alloc | apply Kd.V_drewN | apply Kd.V_drew)); exact moV HO_3003.out), (bkW BK1), (bkW BK2), (bkW BK3), (hbW HB), fun _ => (by (with_reducible repeat (first | apply Kd.N_alloc | apply Kd.N_drewN | apply Kd.N_drew)); exact HO10.out), fun h0_ => absurd ((hoff 4 (by kernel_rfl)).symm.trans h0_) (by decide), fun h0_ => absurd ((hoff 4 (by kernel_rfl)).symm.trans h0_) (by decide), z_HO25, fun h0_ => absurd ((hoff 9 (by kernel_rfl)).symm.trans h0_) (by decide), fun h0_ => absurd ((hoff 9 (by kernel_rfl)).symm.trans h0_) (by decide), fun h0_ => absurd ((hoff 4 (by kernel_rfl)).symm.trans h0_) (by decide), fun h0_ => absurd ((hoff 9 (by kernel_rfl)).symm.trans h0_) (by decide)⟩
         refine steps_cons ?_ ?_
         ·
          rintro b a w' ⟨v9, v14, v17, v24, v29, v32, m4_, m9_, ha, Q_HO_2002, Q_HO_2003, Q_HO_3002, Q_HO_3003, Q_BK1, Q_BK2, Q_BK3, Q_HB, Q_HO10, Q_HO15, Q_HO18, Q_HO25, Q_HO30, Q_HO33, Q_X4_, Q_X9_⟩ hb_ hon hoff
          refine ⟨_, rfl, fun K hK => ?_⟩
          have e5 : a.tmps[5]? = some (.pointer (some ⟨gb3, 0, none⟩)) := by rw [ha]; exact (putSel_off rfl).trans rfl
          replace ha := Aside0.mk ha
          have HO_2002 := Aside0.mk Q_HO_2002
          have HO_2003 := Aside0.mk Q_HO_2003
          have HO_3002 := Aside0.mk Q_HO_3002
          have HO_3003 := Aside0.mk Q_HO_3003
          have BK1 := Aside0.mk Q_BK1
          have BK2 := Aside0.mk Q_BK2
          have BK3 := Aside0.mk Q_BK3
          have HB := Aside0.mk Q_HB
          have hc0_ : w'.cell? ⟨gb3, 0, none⟩ = some (.int .u32 a2_0) := (blk_cell BK3.out 0).trans rfl
          have hc1_ : w'.cell? ⟨gb3, 1, none⟩ = some (.int .i64 a2_1) := (blk_cell BK3.out 1).trans rfl
          have hc2_ : w'.cell? ⟨gb3, 2, none⟩ = some (.slice A2_2 l2_2.length c2_2) := (blk_cell BK3.out 2).trans rfl
          have hc3_ : w'.cell? ⟨gb3, 3, none⟩ = some (.slice A2_3 l2_3.length c2_3) := (blk_cell BK3.out 3).trans rfl
          have hc4_ : w'.cell? ⟨gb3, 4, none⟩ = some (.int .u32 a2_4) := (blk_cell BK3.out 4).trans rfl
          have hc5_ : w'.cell? ⟨gb3, 5, none⟩ = some (.int .u32 a2_5) := (blk_cell BK3.out 5).trans rfl
          have hc6_ : w'.cell? ⟨gb3, 6, none⟩ = some (.int .i64 a2_6) := (blk_cell BK3.out 6).trans rfl
          have hc7_ : w'.cell? ⟨gb3, 7, none⟩ = some (.int .u32 a2_7) := (blk_cell BK3.out 7).trans rfl
          refine value_ (w1 := w') (v := .agg #[.int .u32 a2_0, .int .i64 a2_1, .slice A2_2 l2_2.length c2_2, .slice A2_3 l2_3.length c2_3, .int .u32 a2_4, .int .u32 a2_5, .int .i64 a2_6, .int .u32 a2_7]) (by rfl) rfl ?_ ?_
          ·
           go_simp
           (try simp only [i64_w])
           try rfl
          refine hK.out _ _ ⟨v9, v14, v17, v24, v29, v32, m4_, m9_, (by rw [ha.out]; exact putSel_upk 3 hb_ rfl rfl rfl), Q_HO_2002, Q_HO_2003, Q_HO_3002, Q_HO_3003, Q_BK1, Q_BK2, Q_BK3, Q_HB, Q_HO10, fun h0_ => absurd ((hoff 4 (by kernel_rfl)).symm.trans h0_) (by decide), fun h0_ => absurd ((hoff 4 (by kernel_rfl)).symm.trans h0_) (by decide), Q_HO25, fun h0_ => absurd ((hoff 9 (by kernel_rfl)).symm.trans h0_) (by decide), fun h0_ => absurd ((hoff 9 (by kernel_rfl)).symm.trans h0_) (by decide), fun h0_ => absurd ((hoff 4 (by kernel_rfl)).symm.trans h0_) (by decide), fun h0_ => absurd ((hoff 9 (by kernel_rfl)).symm.trans h0_) (by decide)⟩
         refine steps_cons ?_ ?_
         ·
          rintro b a w' ⟨v9, v14, v17, v24, v29, v32, m4_, m9_, ha, Q_HO_2002, Q_HO_2003, Q_HO_3002, Q_HO_3003, Q_BK1, Q_BK2, Q_BK3, Q_HB, Q_HO10, Q_HO15, Q_HO18, Q_HO25, Q_HO30, Q_HO33, Q_X4_, Q_X9_⟩ hb_ hon hoff
          refine ⟨_, rfl, fun K hK => ?_⟩
          have e36 : a.tmps[36]? = some (v9) := by rw [ha]; exact putSel_on (e := (2, 36, v9)) 2 rfl rfl (hon 2 (by kernel_rfl)) rfl
          have e37 : a.tmps[37]? = some (.agg #[.int .u32 a2_0, .int .i64 a2_1, .slice A2_2 l2_2.length c2_2, .slice A2_3 l2_3.length c2_3, .int .u32 a2_4, .int .u32 a2_5, .int .i64 a2_6, .int .u32 a2_7]) := by rw [ha]; exact putSel_on (e := (3, 37, .agg #[.int .u32 a2_0, .int .i64 a2_1, .slice A2_2 l2_2.length c2_2, .slice A2_3 l2_3.length c2_3, .int .u32 a2_4, .int .u32 a2_5, .int .i64 a2_6, .int .u32 a2_7])) 3 rfl rfl (hon 3 (by kernel_rfl)) rfl
          replace ha := Aside0.mk ha
          have HO_2002 := Aside0.mk Q_HO_2002
          have HO_2003 := Aside0.mk Q_HO_2003
          have HO_3002 := Aside0.mk Q_HO_3002
          have HO_3003 := Aside0.mk Q_HO_3003
          have BK1 := Aside0.mk Q_BK1
          have BK2 := Aside0.mk Q_BK2
          have BK3 := Aside0.mk Q_BK3
          have HB := Aside0.mk Q_HB
          have HO10 := Aside0.mk (Q_HO10 (hon 2 (by kernel_rfl)))
          obtain ⟨Ao63, co63, eo63⟩ := Kd.N_slice HO10.out
          (first | subst eo63 | (injection eo63 with f1_ f2_ f3_; have f4_ := f1_.symm; have f5_ := f3_.symm; clear f1_ f2_ f3_; subst f4_; subst f5_))
          refine goes_ Try.func22 (by kernel_rfl) rfl #[.slice Ao63 y8.length co63, .agg #[.int .u32 a2_0, .int .i64 a2_1, .slice A2_2 l2_2.length c2_2, .slice A2_3 l2_3.length c2_3, .int .u32 a2_4, .int .u32 a2_5, .int .i64 a2_6, .int .u32 a2_7]] (by rfl) rfl rfl (by first | (simp only [List.map_toArray, List.map_cons, List.map_nil, Act.eval, Array.getD_eq_getD_getElem?, Option.getD_some, e36, e37]; done) | (simp only [List.map_toArray, List.map_cons, List.map_nil, Act.eval, Array.getD_eq_getD_getElem?, Option.getD_some, e36, e37]; rfl)) ?_
          with_reducible refine (q12z.calls kj36 _ _ y8 a2_0 a2_1 _ _ l2_2 _ _ l2_3 a2_4 a2_5 a2_6 a2_7 t11 t12 t13 t16 t19 t20 t21 t22 _ ?side1 ?side2 ?side3 ?side4 ?side5 ?side6 A56.out).mono ?_
          (case side1 => repeat (first | exact (Kd.N_reads' HO10.out).2.2 | (with_reducible refine Kd.C_alloc ?_ _) | (with_reducible refine Kd.C_drewN ?_ _) | (with_reducible refine Kd.C_drew ?_)))
          (case side2 => exact (Kd.N_reads' HO10.out).2.1)
          (case side3 => repeat (first | exact (Kd.C_below HR2_2.out HB.out) | (with_reducible refine Kd.C_alloc ?_ _) | (with_reducible refine Kd.C_drewN ?_ _) | (with_reducible refine Kd.C_drew ?_)))
          (case side4 => exact HC2_2.out)
          (case side5 => repeat (first | exact (Kd.C_below HR2_3.out HB.out) | (with_reducible refine Kd.C_alloc ?_ _) | (with_reducible refine Kd.C_drewN ?_ _) | (with_reducible refine Kd.C_drew ?_)))
          (case side6 => exact HC2_3.out)
          rintro e w64 ⟨v14, v17, rfl, ho0, ho1, hb⟩
          refine ⟨_, rfl, ?_⟩
          have n0_ := Aside0.mk (Kd.V_mono (Kd.V_told (Kd.V_told (Kd.V_old (by (with_reducible repeat (first | apply Kd.V_alloc | apply Kd.V_drewN | apply Kd.V_drew)); exact HO_2002.out) hb) (Kd.R_base ho0)) (Kd.R_base ho1)) (fun _ h_ => h_.1))
          have n1_ := Aside0.mk (Kd.V_mono (Kd.V_told (Kd.V_told (Kd.V_old (by (with_reducible repeat (first | apply Kd.V_alloc | apply Kd.V_drewN | apply Kd.V_drew)); exact HO_2003.out) hb) (Kd.R_base ho0)) (Kd.R_base ho1)) (fun _ h_ => h_.1))
          have n2_ := Aside0.mk (Kd.V_mono (Kd.V_told (Kd.V_told (Kd.V_old (by (with_reducible repeat (first | apply Kd.V_alloc | apply Kd.V_drewN | apply Kd.V_drew)); exact HO_3002.out) hb) (Kd.R_base ho0)) (Kd.R_base ho1)) (fun _ h_ => h_.1))
          have n3_ := Aside0.mk (Kd.V_mono (Kd.V_told (Kd.V_told (Kd.V_old (by (with_reducible repeat (first | apply Kd.V_alloc | apply Kd.V_drewN | apply Kd.V_drew)); exact HO_3003.out) hb) (Kd.R_base ho0)) (Kd.R_base ho1)) (fun _ h_ => h_.1))
          have n4_ := Aside0.mk (Kd.N_mono (Kd.N_told (Kd.N_told (Kd.N_old (by (with_reducible repeat (first | apply Kd.N_alloc | apply Kd.N_drewN | apply Kd.N_drew)); exact HO10.out) hb) (Kd.R_base ho0)) (Kd.R_base ho1)) (fun _ h_ => h_.1))
          have n5_ := Aside0.mk (Kd.R_lower (Kd.R_newM (M := fun k_ => (w.heap.size ≤ k_)) ho0 (below_size (hbW HB)) (fun k_ h_ => h_)) (below_size (hbW HB)))
          have n6_ := Aside0.mk (Kd.R_lower (Kd.R_newM (M := fun k_ => (w.heap.size ≤ k_)) ho1 (below_size (hbW HB)) (fun k_ h_ => h_)) (below_size (hbW HB)))
          have n7_ := bkB BK1 hb
          have n8_ := bkB BK2 hb
          have n9_ := bkB BK3 hb
          have n10_ := hbS HB hb
          have z_HO25 := fun (h0_ : b 7 = true) => (show Kd.N k26 26 w64 w.heap.size (fun k_ => ((P0_2_ k_ ∨ P0_3_ k_ ∨ P1_2_ k_ ∨ P1_3_ k_) ∨ w.heap.size ≤ k_) ∧ k_ ≠ gb1 ∧ k_ ≠ gb2 ∧ k_ ≠ gb3) v24 y23 from by first | exact (Kd.N_mono (Kd.N_told (Kd.N_told (Kd.N_old (by (with_reducible repeat (first | apply Kd.N_alloc | apply Kd.N_drewN | apply Kd.N_drew)); exact (Q_HO25 h0_)) hb) (Kd.R_base ho0)) (Kd.R_base ho1)) (fun _ h_ => h_.1)) | exact Kd.N_mono (Kd.N_mono (Kd.N_told (Kd.N_told (Kd.N_old (by (with_reducible repeat (first | apply Kd.N_alloc | apply Kd.N_drewN | apply Kd.N_drew)); exact (Q_HO25 h0_)) hb) (Kd.R_base ho0)) (Kd.R_base ho1)) (fun _ h_ => by first | exact h_.1 | exact h_.1.1)) (fun _ h_ => by first | trivial | exact h_ | exact h_.1 | exact h_.1.1))
          clear HO_2002 HO_2003 HO_3002 HO_3003 HO10 BK1 BK2 BK3 HB
          have HO_2002 := n0_
          have HO_2003 := n1_
          have HO_3002 := n2_
          have HO_3003 := n3_
          have HO10 := n4_
          have HO15 := n5_
          have HO18 := n6_
          have BK1 := n7_
          have BK2 := n8_
          have BK3 := n9_
          have HB := n10_
          clear n0_ n1_ n2_ n3_ n4_ n5_ n6_ n7_ n8_ n9_ n10_
          (try clear hb)
          (try clear ho0)
          (try clear ho1)
          refine hK.out _ _ ⟨.slice Ao63 y8.length co63, v14, v17, v24, v29, v32, (.agg #[.int .u32 t11, .int .i64 t12, v14, v17, .int .u32 t19, .int .u32 t20, .int .i64 t21, .int .u32 t22]), m9_, (by rw [ha.out]; exact putSel_upk 4 hb_ rfl rfl rfl), (by (with_reducible repeat (first | apply Kd.V_alloc | apply Kd.V_drewN | apply Kd.V_drew)); exact moV HO_2002.out), (by (with_reducible repeat (first | apply Kd.V_alloc | apply Kd.V_drewN | apply Kd.V_drew)); exact moV HO_2003.out), (by (with_reducible repeat (first | apply Kd.V_alloc | apply Kd.V_drewN | apply Kd.V_drew)); exact moV HO_3002.out), (by (with_reducible repeat (first | apply Kd.V_alloc | apply Kd.V_drewN | apply Kd.V_drew)); exact moV HO_3003.out), (bkW BK1), (bkW BK2), (bkW BK3), (hbW HB), fun _ => (by (with_reducible repeat (first | apply Kd.N_alloc | apply Kd.N_drewN | apply Kd.N_drew)); exact moN HO10.out), fun _ => (by (with_reducible repeat (first | apply Kd.R_alloc | apply Kd.R_drewN | apply Kd.R_drew)); first | exact HO15.out | exact Kd.R_mono HO15.out (fun _ hk => hk.1)), fun _ => (by (with_reducible repeat (first | apply Kd.R_alloc | apply Kd.R_drewN | apply Kd.R_drew)); first | exact HO18.out | exact Kd.R_mono HO18.out (fun _ hk => hk.1)), z_HO25, fun h0_ => absurd ((hoff 9 (by kernel_rfl)).symm.trans h0_) (by decide), fun h0_ => absurd ((hoff 9 (by kernel_rfl)).symm.trans h0_) (by decide), fun _ => rfl, fun h0_ => absurd ((hoff 9 (by kernel_rfl)).symm.trans h0_) (by decide)⟩
         refine steps_cons ?_ ?_
         ·
          rintro b a w' ⟨v9, v14, v17, v24, v29, v32, m4_, m9_, ha, Q_HO_2002, Q_HO_2003, Q_HO_3002, Q_HO_3003, Q_BK1, Q_BK2, Q_BK3, Q_HB, Q_HO10, Q_HO15, Q_HO18, Q_HO25, Q_HO30, Q_HO33, Q_X4_, Q_X9_⟩ hb_ hon hoff
          refine ⟨_, rfl, fun K hK => ?_⟩
          have e4 : a.tmps[4]? = some (.pointer (some ⟨gb2, 0, none⟩)) := by rw [ha]; exact (putSel_off rfl).trans rfl
          replace ha := Aside0.mk ha
          have HO_2002 := Aside0.mk Q_HO_2002
          have HO_2003 := Aside0.mk Q_HO_2003
          have HO_3002 := Aside0.mk Q_HO_3002
          have HO_3003 := Aside0.mk Q_HO_3003
          have BK1 := Aside0.mk Q_BK1
          have BK2 := Aside0.mk Q_BK2
          have BK3 := Aside0.mk Q_BK3
          have HB := Aside0.mk Q_HB
          have hc0_ : w'.cell? ⟨gb2, 0, none⟩ = some (.int .i64 a1_0) := (blk_cell BK2.out 0).trans rfl
          have hc1_ : w'.cell? ⟨gb2, 1, none⟩ = some (.int .u32 a1_1) := (blk_cell BK2.out 1).trans rfl
          have hc2_ : w'.cell? ⟨gb2, 2, none⟩ = some (.slice A1_2 l1_2.length c1_2) := (blk_cell BK2.out 2).trans rfl
          have hc3_ : w'.cell? ⟨gb2, 3, none⟩ = some (.slice A1_3 l1_3.length c1_3) := (blk_cell BK2.out 3).trans rfl
          refine value_ (w1 := w') (v := .agg #[.int .i64 a1_0, .int .u32 a1_1, .slice A1_2 l1_2.length c1_2, .slice A1_3 l1_3.length c1_3]) (by rfl) rfl ?_ ?_
          ·
           go_simp
           (try simp only [i64_w])
           try rfl
          refine hK.out _ _ ⟨v9, v14, v17, v24, v29, v32, m4_, m9_, (by rw [ha.out]; exact putSel_upk 5 hb_ rfl rfl rfl), Q_HO_2002, Q_HO_2003, Q_HO_3002, Q_HO_3003, Q_BK1, Q_BK2, Q_BK3, Q_HB, Q_HO10, Q_HO15, Q_HO18, fun h0_ => absurd ((hoff 7 (by kernel_rfl)).symm.trans h0_) (by decide), fun h0_ => absurd ((hoff 9 (by kernel_rfl)).symm.trans h0_) (by decide), fun h0_ => absurd ((hoff 9 (by kernel_rfl)).symm.trans h0_) (by decide), Q_X4_, fun h0_ => absurd ((hoff 9 (by kernel_rfl)).symm.trans h0_) (by decide)⟩
         refine steps_cons ?_ ?_
         ·
          rintro b a w' ⟨v9, v14, v17, v24, v29, v32, m4_, m9_, ha, Q_HO_2002, Q_HO_2003, Q_HO_3002, Q_HO_3003, Q_BK1, Q_BK2, Q_BK3, Q_HB, Q_HO10, Q_HO15, Q_HO18, Q_HO25, Q_HO30, Q_HO33, Q_X4_, Q_X9_⟩ hb_ hon hoff
          refine ⟨_, rfl, fun K hK => ?_⟩
          have e3 : a.tmps[3]? = some (.pointer (some ⟨gb1, 0, none⟩)) := by rw [ha]; exact (putSel_off rfl).trans rfl
          replace ha := Aside0.mk ha
          have HO_2002 := Aside0.mk Q_HO_2002
          have HO_2003 := Aside0.mk Q_HO_2003
          have HO_3002 := Aside0.mk Q_HO_3002
          have HO_3003 := Aside0.mk Q_HO_3003
          have BK1 := Aside0.mk Q_BK1
          have BK2 := Aside0.mk Q_BK2
          have BK3 := Aside0.mk Q_BK3
          have HB := Aside0.mk Q_HB
          have hc0_ : w'.cell? ⟨gb1, 0, none⟩ = some (.int .i64 a0_0) := (blk_cell BK1.out 0).trans rfl
          have hc1_ : w'.cell? ⟨gb1, 1, none⟩ = some (.int .u32 a0_1) := (blk_cell BK1.out 1).trans rfl
          have hc2_ : w'.cell? ⟨gb1, 2, none⟩ = some (.slice A0_2 l0_2.length c0_2) := (blk_cell BK1.out 2).trans rfl
          have hc3_ : w'.cell? ⟨gb1, 3, none⟩ = some (.slice A0_3 l0_3.length c0_3) := (blk_cell BK1.out 3).trans rfl
          refine value_ (w1 := w') (v := .agg #[.int .i64 a0_0, .int .u32 a0_1, .slice A0_2 l0_2.length c0_2, .slice A0_3 l0_3.length c0_3]) (by rfl) rfl ?_ ?_
          ·
           go_simp
           (try simp only [i64_w])
           try rfl
          refine hK.out _ _ ⟨v9, v14, v17, v24, v29, v32, m4_, m9_, (by rw [ha.out]; exact putSel_upk 6 hb_ rfl rfl rfl), Q_HO_2002, Q_HO_2003, Q_HO_3002, Q_HO_3003, Q_BK1, Q_BK2, Q_BK3, Q_HB, Q_HO10, Q_HO15, Q_HO18, fun h0_ => absurd ((hoff 7 (by kernel_rfl)).symm.trans h0_) (by decide), fun h0_ => absurd ((hoff 9 (by kernel_rfl)).symm.trans h0_) (by decide), fun h0_ => absurd ((hoff 9 (by kernel_rfl)).symm.trans h0_) (by decide), Q_X4_, fun h0_ => absurd ((hoff 9 (by kernel_rfl)).symm.trans h0_) (by decide)⟩
         refine steps_cons ?_ ?_
         ·
          rintro b a w' ⟨v9, v14, v17, v24, v29, v32, m4_, m9_, ha, Q_HO_2002, Q_HO_2003, Q_HO_3002, Q_HO_3003, Q_BK1, Q_BK2, Q_BK3, Q_HB, Q_HO10, Q_HO15, Q_HO18, Q_HO25, Q_HO30, Q_HO33, Q_X4_, Q_X9_⟩ hb_ hon hoff
          refine ⟨_, rfl, fun K hK => ?_⟩
          have e39 : a.tmps[39]? = some (.agg #[.int .i64 a1_0, .int .u32 a1_1, .slice A1_2 l1_2.length c1_2, .slice A1_3 l1_3.length c1_3]) := by rw [ha]; exact putSel_on (e := (5, 39, .agg #[.int .i64 a1_0, .int .u32 a1_1, .slice A1_2 l1_2.length c1_2, .slice A1_3 l1_3.length c1_3])) 5 rfl rfl (hon 5 (by kernel_rfl)) rfl
          have e40 : a.tmps[40]? = some (.agg #[.int .i64 a0_0, .int .u32 a0_1, .slice A0_2 l0_2.length c0_2, .slice A0_3 l0_3.length c0_3]) := by rw [ha]; exact putSel_on (e := (6, 40, .agg #[.int .i64 a0_0, .int .u32 a0_1, .slice A0_2 l0_2.length c0_2, .slice A0_3 l0_3.length c0_3])) 6 rfl rfl (hon 6 (by kernel_rfl)) rfl
          replace ha := Aside0.mk ha
          have HO_2002 := Aside0.mk Q_HO_2002
          have HO_2003 := Aside0.mk Q_HO_2003
          have HO_3002 := Aside0.mk Q_HO_3002
          have HO_3003 := Aside0.mk Q_HO_3003
          have BK1 := Aside0.mk Q_BK1
          have BK2 := Aside0.mk Q_BK2
          have BK3 := Aside0.mk Q_BK3
          have HB := Aside0.mk Q_HB
          refine Kd.N_lit_step k26 _ 26 ?hg (N' := 41) ?hd (xs := ([(⟨a1_0, a1_1, l1_2, l1_3⟩ : S26), (⟨a0_0, a0_1, l0_2, l0_3⟩ : S26)] : List (S26))) (inner := [.int .i64 a1_0, .int .u32 a1_1, .slice A1_2 l1_2.length c1_2, .slice A1_3 l1_3.length c1_3, .int .i64 a0_0, .int .u32 a0_1, .slice A0_2 l0_2.length c0_2, .slice A0_3 l0_3.length c0_3]) (ok := (fun k_ => ((P0_2_ k_ ∨ P0_3_ k_ ∨ P1_2_ k_ ∨ P1_3_ k_) ∨ w.heap.size ≤ k_) ∧ k_ ≠ gb1 ∧ k_ ≠ gb2 ∧ k_ ≠ gb3)) (okp := (fun k_ => ((P0_2_ k_ ∨ P0_3_ k_ ∨ P1_2_ k_ ∨ P1_3_ k_) ∨ w.heap.size ≤ k_) ∧ k_ ≠ gb1 ∧ k_ ≠ gb2 ∧ k_ ≠ gb3)) ?hr ?hp (fun _ hk => hk) ((show ∀ k_, w'.heap.size ≤ k_ → (fun k_ => ((P0_2_ k_ ∨ P0_3_ k_ ∨ P1_2_ k_ ∨ P1_3_ k_) ∨ w.heap.size ≤ k_) ∧ k_ ≠ gb1 ∧ k_ ≠ gb2 ∧ k_ ≠ gb3) k_ from fun k_ hk => ⟨(.inr (Nat.le_trans (below_size (hbW HB)) hk)), Kd.freshB (g := gb1) (o := .cells #[.int .i64 a0_0, .int .u32 a0_1, .slice A0_2 l0_2.length c0_2, .slice A0_3 l0_3.length c0_3] 26 (0, 0)) (bkW BK1) k_ hk, Kd.freshB (g := gb2) (o := .cells #[.int .i64 a1_0, .int .u32 a1_1, .slice A1_2 l1_2.length c1_2, .slice A1_3 l1_3.length c1_3] 26 (0, 0)) (bkW BK2) k_ hk, Kd.freshB (g := gb3) (o := .cells #[.int .u32 a2_0, .int .i64 a2_1, .slice A2_2 l2_2.length c2_2, .slice A2_3 l2_3.length c2_3, .int .u32 a2_4, .int .u32 a2_5, .int .i64 a2_6, .int .u32 a2_7] 30 (0, 0)) (bkW BK3) k_ hk⟩) _ (Nat.le_refl _)) (Below.refl _ _) (Nat.le_refl _) (by simp) ?_; (case hd => rfl); (case hg => rfl); (case hr => first | (go_simp; done) | (go_simp; rfl)); (case hp => exact (Reps.c4 (show Kd.FK k26 _ _ (⟨a1_0, a1_1, l1_2, l1_3⟩ : S26) [.int .i64 a1_0, .int .u32 a1_1, .slice A1_2 l1_2.length c1_2, .slice A1_3 l1_3.length c1_3] from (k26_mkF _ _ (⟨a1_0, a1_1, l1_2, l1_3⟩ : S26) (Kd.V_reads' (Kd.V_mono (ok' := (fun k_ => ((P0_2_ k_ ∨ P0_3_ k_ ∨ P1_2_ k_ ∨ P1_3_ k_) ∨ w.heap.size ≤ k_) ∧ k_ ≠ gb1 ∧ k_ ≠ gb2 ∧ k_ ≠ gb3)) (HO_3002.out) (fun k_ hk => ⟨hk.1, ⟨hk.2.1, ⟨hk.2.2.1, hk.2.2.2⟩⟩⟩))).2.1 (Kd.V_F (Kd.V_mono (ok' := (fun k_ => ((P0_2_ k_ ∨ P0_3_ k_ ∨ P1_2_ k_ ∨ P1_3_ k_) ∨ w.heap.size ≤ k_) ∧ k_ ≠ gb1 ∧ k_ ≠ gb2 ∧ k_ ≠ gb3)) (HO_3002.out) (fun k_ hk => ⟨hk.1, ⟨hk.2.1, ⟨hk.2.2.1, hk.2.2.2⟩⟩⟩))) (Kd.V_reads' (Kd.V_mono (ok' := (fun k_ => ((P0_2_ k_ ∨ P0_3_ k_ ∨ P1_2_ k_ ∨ P1_3_ k_) ∨ w.heap.size ≤ k_) ∧ k_ ≠ gb1 ∧ k_ ≠ gb2 ∧ k_ ≠ gb3)) (HO_3003.out) (fun k_ hk => ⟨hk.1, ⟨hk.2.1, ⟨hk.2.2.1, hk.2.2.2⟩⟩⟩))).2.1 (Kd.V_F (Kd.V_mono (ok' := (fun k_ => ((P0_2_ k_ ∨ P0_3_ k_ ∨ P1_2_ k_ ∨ P1_3_ k_) ∨ w.heap.size ≤ k_) ∧ k_ ≠ gb1 ∧ k_ ≠ gb2 ∧ k_ ≠ gb3)) (HO_3003.out) (fun k_ hk => ⟨hk.1, ⟨hk.2.1, ⟨hk.2.2.1, hk.2.2.2⟩⟩⟩))))) (Reps.c4 (show Kd.FK k26 _ _ (⟨a0_0, a0_1, l0_2, l0_3⟩ : S26) [.int .i64 a0_0, .int .u32 a0_1, .slice A0_2 l0_2.length c0_2, .slice A0_3 l0_3.length c0_3] from (k26_mkF _ _ (⟨a0_0, a0_1, l0_2, l0_3⟩ : S26) (Kd.V_reads' (Kd.V_mono (ok' := (fun k_ => ((P0_2_ k_ ∨ P0_3_ k_ ∨ P1_2_ k_ ∨ P1_3_ k_) ∨ w.heap.size ≤ k_) ∧ k_ ≠ gb1 ∧ k_ ≠ gb2 ∧ k_ ≠ gb3)) (HO_2002.out) (fun k_ hk => ⟨hk.1, ⟨hk.2.1, ⟨hk.2.2.1, hk.2.2.2⟩⟩⟩))).2.1 (Kd.V_F (Kd.V_mono (ok' := (fun k_ => ((P0_2_ k_ ∨ P0_3_ k_ ∨ P1_2_ k_ ∨ P1_3_ k_) ∨ w.heap.size ≤ k_) ∧ k_ ≠ gb1 ∧ k_ ≠ gb2 ∧ k_ ≠ gb3)) (HO_2002.out) (fun k_ hk => ⟨hk.1, ⟨hk.2.1, ⟨hk.2.2.1, hk.2.2.2⟩⟩⟩))) (Kd.V_reads' (Kd.V_mono (ok' := (fun k_ => ((P0_2_ k_ ∨ P0_3_ k_ ∨ P1_2_ k_ ∨ P1_3_ k_) ∨ w.heap.size ≤ k_) ∧ k_ ≠ gb1 ∧ k_ ≠ gb2 ∧ k_ ≠ gb3)) (HO_2003.out) (fun k_ hk => ⟨hk.1, ⟨hk.2.1, ⟨hk.2.2.1, hk.2.2.2⟩⟩⟩))).2.1 (Kd.V_F (Kd.V_mono (ok' := (fun k_ => ((P0_2_ k_ ∨ P0_3_ k_ ∨ P1_2_ k_ ∨ P1_3_ k_) ∨ w.heap.size ≤ k_) ∧ k_ ≠ gb1 ∧ k_ ≠ gb2 ∧ k_ ≠ gb3)) (HO_2003.out) (fun k_ hk => ⟨hk.1, ⟨hk.2.1, ⟨hk.2.2.1, hk.2.2.2⟩⟩⟩))))) (Reps.none _ _))))
          intro v24 w60 ho61 hb hg_ hnew_
          clear hg_ hnew_
          (first | rw [← Ny23.out] at ho61 | (simp only [Int.reduceToNat] at ho61; rw [← Ny23.out] at ho61))
          have n0_ := Aside0.mk (Kd.V_elder' (by (with_reducible repeat (first | apply Kd.V_alloc | apply Kd.V_drewN | apply Kd.V_drew)); exact HO_2002.out) (Kd.N_base ho61) hb)
          have n1_ := Aside0.mk (Kd.V_elder' (by (with_reducible repeat (first | apply Kd.V_alloc | apply Kd.V_drewN | apply Kd.V_drew)); exact HO_2003.out) (Kd.N_base ho61) hb)
          have n2_ := Aside0.mk (Kd.V_elder' (by (with_reducible repeat (first | apply Kd.V_alloc | apply Kd.V_drewN | apply Kd.V_drew)); exact HO_3002.out) (Kd.N_base ho61) hb)
          have n3_ := Aside0.mk (Kd.V_elder' (by (with_reducible repeat (first | apply Kd.V_alloc | apply Kd.V_drewN | apply Kd.V_drew)); exact HO_3003.out) (Kd.N_base ho61) hb)
          have n4_ := Aside0.mk (Kd.N_lower ho61 (below_size (hbW HB)))
          have n5_ := bkB BK1 hb
          have n6_ := bkB BK2 hb
          have n7_ := bkB BK3 hb
          have n8_ := hbS HB hb
          have z_HO10 := fun (h0_ : b 2 = true) => (show Kd.N k26 26 w60 w.heap.size (fun k_ => ((P0_2_ k_ ∨ P0_3_ k_ ∨ P1_2_ k_ ∨ P1_3_ k_) ∨ w.heap.size ≤ k_) ∧ k_ ≠ gb1 ∧ k_ ≠ gb2 ∧ k_ ≠ gb3) v9 y8 from by first | exact (Kd.N_elder' (by (with_reducible repeat (first | apply Kd.N_alloc | apply Kd.N_drewN | apply Kd.N_drew)); exact (Q_HO10 h0_)) (Kd.N_base ho61) hb) | exact Kd.N_mono (Kd.N_elder' (by (with_reducible repeat (first | apply Kd.N_alloc | apply Kd.N_drewN | apply Kd.N_drew)); exact (Q_HO10 h0_)) (Kd.N_base ho61) hb) (fun _ h_ => by first | trivial | exact h_ | exact h_.1))
          have z_HO15 := fun (h0_ : b 4 = true) => (show Kd.R (Kd.int .u32) 22 w60 w.heap.size (fun k_ => (w.heap.size ≤ k_)) v14 t13 from by first | exact (Kd.R_below (by (with_reducible repeat (first | apply Kd.R_alloc | apply Kd.R_drewN | apply Kd.R_drew)); exact (Q_HO15 h0_)) hb) | exact Kd.R_mono (Kd.R_below (by (with_reducible repeat (first | apply Kd.R_alloc | apply Kd.R_drewN | apply Kd.R_drew)); exact (Q_HO15 h0_)) hb) (fun _ h_ => by first | trivial | exact h_ | exact h_.1))
          have z_HO18 := fun (h0_ : b 4 = true) => (show Kd.R (Kd.int .u32) 22 w60 w.heap.size (fun k_ => (w.heap.size ≤ k_)) v17 t16 from by first | exact (Kd.R_below (by (with_reducible repeat (first | apply Kd.R_alloc | apply Kd.R_drewN | apply Kd.R_drew)); exact (Q_HO18 h0_)) hb) | exact Kd.R_mono (Kd.R_below (by (with_reducible repeat (first | apply Kd.R_alloc | apply Kd.R_drewN | apply Kd.R_drew)); exact (Q_HO18 h0_)) hb) (fun _ h_ => by first | trivial | exact h_ | exact h_.1))
          clear HO_2002 HO_2003 HO_3002 HO_3003 BK1 BK2 BK3 HB
          have HO_2002 := n0_
          have HO_2003 := n1_
          have HO_3002 := n2_
          have HO_3003 := n3_
          have HO25 := n4_
          have BK1 := n5_
          have BK2 := n6_
          have BK3 := n7_
          have HB := n8_
          clear n0_ n1_ n2_ n3_ n4_ n5_ n6_ n7_ n8_ hb ho61
          refine hK.out _ _ ⟨v9, v14, v17, v24, v29, v32, m4_, m9_, (by rw [ha.out]; exact putSel_upk 7 hb_ rfl rfl rfl), (by (with_reducible repeat (first | apply Kd.V_alloc | apply Kd.V_drewN | apply Kd.V_drew)); exact moV HO_2002.out), (by (with_reducible repeat (first | apply Kd.V_alloc | apply Kd.V_drewN | apply Kd.V_drew)); exact moV HO_2003.out), (by (with_reducible repeat (first | apply Kd.V_alloc | apply Kd.V_drewN | apply Kd.V_drew)); exact moV HO_3002.out), (by (with_reducible repeat (first | apply Kd.V_alloc | apply Kd.V_drewN | apply Kd.V_drew)); exact moV HO_3003.out), (bkW BK1), (bkW BK2), (bkW BK3), (hbW HB), z_HO10, z_HO15, z_HO18, fun _ => (by (with_reducible repeat (first | apply Kd.N_alloc | apply Kd.N_drewN | apply Kd.N_drew)); exact HO25.out), fun h0_ => absurd ((hoff 9 (by kernel_rfl)).symm.trans h0_) (by decide), fun h0_ => absurd ((hoff 9 (by kernel_rfl)).symm.trans h0_) (by decide), Q_X4_, fun h0_ => absurd ((hoff 9 (by kernel_rfl)).symm.trans h0_) (by decide)⟩
         refine steps_cons ?_ ?_
         ·
          rintro b a w' ⟨v9, v14, v17, v24, v29, v32, m4_, m9_, ha, Q_HO_2002, Q_HO_2003, Q_HO_3002, Q_HO_3003, Q_BK1, Q_BK2, Q_BK3, Q_HB, Q_HO10, Q_HO15, Q_HO18, Q_HO25, Q_HO30, Q_HO33, Q_X4_, Q_X9_⟩ hb_ hon hoff
          refine ⟨_, rfl, fun K hK => ?_⟩
          have e5 : a.tmps[5]? = some (.pointer (some ⟨gb3, 0, none⟩)) := by rw [ha]; exact (putSel_off rfl).trans rfl
          replace ha := Aside0.mk ha
          have HO_2002 := Aside0.mk Q_HO_2002
          have HO_2003 := Aside0.mk Q_HO_2003
          have HO_3002 := Aside0.mk Q_HO_3002
          have HO_3003 := Aside0.mk Q_HO_3003
          have BK1 := Aside0.mk Q_BK1
          have BK2 := Aside0.mk Q_BK2
          have BK3 := Aside0.mk Q_BK3
          have HB := Aside0.mk Q_HB
          have hc0_ : w'.cell? ⟨gb3, 0, none⟩ = some (.int .u32 a2_0) := (blk_cell BK3.out 0).trans rfl
          have hc1_ : w'.cell? ⟨gb3, 1, none⟩ = some (.int .i64 a2_1) := (blk_cell BK3.out 1).trans rfl
          have hc2_ : w'.cell? ⟨gb3, 2, none⟩ = some (.slice A2_2 l2_2.length c2_2) := (blk_cell BK3.out 2).trans rfl
          have hc3_ : w'.cell? ⟨gb3, 3, none⟩ = some (.slice A2_3 l2_3.length c2_3) := (blk_cell BK3.out 3).trans rfl
          have hc4_ : w'.cell? ⟨gb3, 4, none⟩ = some (.int .u32 a2_4) := (blk_cell BK3.out 4).trans rfl
          have hc5_ : w'.cell? ⟨gb3, 5, none⟩ = some (.int .u32 a2_5) := (blk_cell BK3.out 5).trans rfl
          have hc6_ : w'.cell? ⟨gb3, 6, none⟩ = some (.int .i64 a2_6) := (blk_cell BK3.out 6).trans rfl
          have hc7_ : w'.cell? ⟨gb3, 7, none⟩ = some (.int .u32 a2_7) := (blk_cell BK3.out 7).trans rfl
          refine value_ (w1 := w') (v := .agg #[.int .u32 a2_0, .int .i64 a2_1, .slice A2_2 l2_2.length c2_2, .slice A2_3 l2_3.length c2_3, .int .u32 a2_4, .int .u32 a2_5, .int .i64 a2_6, .int .u32 a2_7]) (by rfl) rfl ?_ ?_
          ·
           go_simp
           (try simp only [i64_w])
           try rfl
          refine hK.out _ _ ⟨v9, v14, v17, v24, v29, v32, m4_, m9_, (by rw [ha.out]; exact putSel_upk 8 hb_ rfl rfl rfl), Q_HO_2002, Q_HO_2003, Q_HO_3002, Q_HO_3003, Q_BK1, Q_BK2, Q_BK3, Q_HB, Q_HO10, Q_HO15, Q_HO18, Q_HO25, fun h0_ => absurd ((hoff 9 (by kernel_rfl)).symm.trans h0_) (by decide), fun h0_ => absurd ((hoff 9 (by kernel_rfl)).symm.trans h0_) (by decide), Q_X4_, fun h0_ => absurd ((hoff 9 (by kernel_rfl)).symm.trans h0_) (by decide)⟩
         refine steps_cons ?_ ?_
         ·
          rintro b a w' ⟨v9, v14, v17, v24, v29, v32, m4_, m9_, ha, Q_HO_2002, Q_HO_2003, Q_HO_3002, Q_HO_3003, Q_BK1, Q_BK2, Q_BK3, Q_HB, Q_HO10, Q_HO15, Q_HO18, Q_HO25, Q_HO30, Q_HO33, Q_X4_, Q_X9_⟩ hb_ hon hoff
          refine ⟨_, rfl, fun K hK => ?_⟩
          have e41 : a.tmps[41]? = some (v24) := by rw [ha]; exact putSel_on (e := (7, 41, v24)) 7 rfl rfl (hon 7 (by kernel_rfl)) rfl
          have e42 : a.tmps[42]? = some (.agg #[.int .u32 a2_0, .int .i64 a2_1, .slice A2_2 l2_2.length c2_2, .slice A2_3 l2_3.length c2_3, .int .u32 a2_4, .int .u32 a2_5, .int .i64 a2_6, .int .u32 a2_7]) := by rw [ha]; exact putSel_on (e := (8, 42, .agg #[.int .u32 a2_0, .int .i64 a2_1, .slice A2_2 l2_2.length c2_2, .slice A2_3 l2_3.length c2_3, .int .u32 a2_4, .int .u32 a2_5, .int .i64 a2_6, .int .u32 a2_7])) 8 rfl rfl (hon 8 (by kernel_rfl)) rfl
          replace ha := Aside0.mk ha
          have HO_2002 := Aside0.mk Q_HO_2002
          have HO_2003 := Aside0.mk Q_HO_2003
          have HO_3002 := Aside0.mk Q_HO_3002
          have HO_3003 := Aside0.mk Q_HO_3003
          have BK1 := Aside0.mk Q_BK1
          have BK2 := Aside0.mk Q_BK2
          have BK3 := Aside0.mk Q_BK3
          have HB := Aside0.mk Q_HB
          have HO10 := Aside0.mk (Q_HO10 (hon 2 (by kernel_rfl)))
          have HO15 := Aside0.mk (Q_HO15 (hon 4 (by kernel_rfl)))
          have HO18 := Aside0.mk (Q_HO18 (hon 4 (by kernel_rfl)))
          have HO25 := Aside0.mk (Q_HO25 (hon 7 (by kernel_rfl)))
          obtain ⟨Ao67, co67, eo67⟩ := Kd.N_slice HO25.out
          (first | subst eo67 | (injection eo67 with f1_ f2_ f3_; have f4_ := f1_.symm; have f5_ := f3_.symm; clear f1_ f2_ f3_; subst f4_; subst f5_))
          refine goes_ Try.func22 (by kernel_rfl) rfl #[.slice Ao67 y23.length co67, .agg #[.int .u32 a2_0, .int .i64 a2_1, .slice A2_2 l2_2.length c2_2, .slice A2_3 l2_3.length c2_3, .int .u32 a2_4, .int .u32 a2_5, .int .i64 a2_6, .int .u32 a2_7]] (by rfl) rfl rfl (by first | (simp only [List.map_toArray, List.map_cons, List.map_nil, Act.eval, Array.getD_eq_getD_getElem?, Option.getD_some, e41, e42]; done) | (simp only [List.map_toArray, List.map_cons, List.map_nil, Act.eval, Array.getD_eq_getD_getElem?, Option.getD_some, e41, e42]; rfl)) ?_
          with_reducible refine (q12z.calls kj36 _ _ y23 a2_0 a2_1 _ _ l2_2 _ _ l2_3 a2_4 a2_5 a2_6 a2_7 t26 t27 t28 t31 t34 t35 t36 t37 _ ?side1 ?side2 ?side3 ?side4 ?side5 ?side6 A57.out).mono ?_
          (case side1 => repeat (first | exact (Kd.N_reads' HO25.out).2.2 | (with_reducible refine Kd.C_alloc ?_ _) | (with_reducible refine Kd.C_drewN ?_ _) | (with_reducible refine Kd.C_drew ?_)))
          (case side2 => exact (Kd.N_reads' HO25.out).2.1)
          (case side3 => repeat (first | exact (Kd.C_below HR2_2.out HB.out) | (with_reducible refine Kd.C_alloc ?_ _) | (with_reducible refine Kd.C_drewN ?_ _) | (with_reducible refine Kd.C_drew ?_)))
          (case side4 => exact HC2_2.out)
          (case side5 => repeat (first | exact (Kd.C_below HR2_3.out HB.out) | (with_reducible refine Kd.C_alloc ?_ _) | (with_reducible refine Kd.C_drewN ?_ _) | (with_reducible refine Kd.C_drew ?_)))
          (case side6 => exact HC2_3.out)
          rintro e w68 ⟨v29, v32, rfl, ho0, ho1, hb⟩
          refine ⟨_, rfl, ?_⟩
          have n0_ := Aside0.mk (Kd.V_mono (Kd.V_told (Kd.V_told (Kd.V_old (by (with_reducible repeat (first | apply Kd.V_alloc | apply Kd.V_drewN | apply Kd.V_drew)); exact HO_2002.out) hb) (Kd.R_base ho0)) (Kd.R_base ho1)) (fun _ h_ => h_.1))
          have n1_ := Aside0.mk (Kd.V_mono (Kd.V_told (Kd.V_told (Kd.V_old (by (with_reducible repeat (first | apply Kd.V_alloc | apply Kd.V_drewN | apply Kd.V_drew)); exact HO_2003.out) hb) (Kd.R_base ho0)) (Kd.R_base ho1)) (fun _ h_ => h_.1))
          have n2_ := Aside0.mk (Kd.V_mono (Kd.V_told (Kd.V_told (Kd.V_old (by (with_reducible repeat (first | apply Kd.V_alloc | apply Kd.V_drewN | apply Kd.V_drew)); exact HO_3002.out) hb) (Kd.R_base ho0)) (Kd.R_base ho1)) (fun _ h_ => h_.1))
          have n3_ := Aside0.mk (Kd.V_mono (Kd.V_told (Kd.V_told (Kd.V_old (by (with_reducible repeat (first | apply Kd.V_alloc | apply Kd.V_drewN | apply Kd.V_drew)); exact HO_3003.out) hb) (Kd.R_base ho0)) (Kd.R_base ho1)) (fun _ h_ => h_.1))
          have n4_ := Aside0.mk (Kd.N_mono (Kd.N_told (Kd.N_told (Kd.N_old (by (with_reducible repeat (first | apply Kd.N_alloc | apply Kd.N_drewN | apply Kd.N_drew)); exact HO10.out) hb) (Kd.R_base ho0)) (Kd.R_base ho1)) (fun _ h_ => h_.1))
          have n5_ := Aside0.mk (Kd.R_mono (Kd.R_told (Kd.R_told (Kd.R_old (rW HO15) hb) (Kd.R_base ho0)) (Kd.R_base ho1)) (fun _ h_ => h_.1))
          have n6_ := Aside0.mk (Kd.R_mono (Kd.R_told (Kd.R_told (Kd.R_old (rW HO18) hb) (Kd.R_base ho0)) (Kd.R_base ho1)) (fun _ h_ => h_.1))
          have n7_ := Aside0.mk (Kd.N_mono (Kd.N_told (Kd.N_told (Kd.N_old (by (with_reducible repeat (first | apply Kd.N_alloc | apply Kd.N_drewN | apply Kd.N_drew)); exact HO25.out) hb) (Kd.R_base ho0)) (Kd.R_base ho1)) (fun _ h_ => h_.1))
          have n8_ := Aside0.mk (Kd.R_lower (Kd.R_new' (Kd.R_new' (Kd.R_newM (M := fun k_ => (w.heap.size ≤ k_)) ho0 (below_size (hbW HB)) (fun k_ h_ => h_)) (Kd.R_lt (rW HO15))) (Kd.R_lt (rW HO18))) (below_size (hbW HB)))
          have n9_ := Aside0.mk (Kd.R_lower (Kd.R_new' (Kd.R_new' (Kd.R_newM (M := fun k_ => (w.heap.size ≤ k_)) ho1 (below_size (hbW HB)) (fun k_ h_ => h_)) (Kd.R_lt (rW HO15))) (Kd.R_lt (rW HO18))) (below_size (hbW HB)))
          have n10_ := bkB BK1 hb
          have n11_ := bkB BK2 hb
          have n12_ := bkB BK3 hb
          have n13_ := hbS HB hb
          clear HO_2002 HO_2003 HO_3002 HO_3003 HO10 HO15 HO18 HO25 BK1 BK2 BK3 HB
          have HO_2002 := n0_
          have HO_2003 := n1_
          have HO_3002 := n2_
          have HO_3003 := n3_
          have HO10 := n4_
          have HO15 := n5_
          have HO18 := n6_
          have HO25 := n7_
          have HO30 := n8_
          have HO33 := n9_
          have BK1 := n10_
          have BK2 := n11_
          have BK3 := n12_
          have HB := n13_
          clear n0_ n1_ n2_ n3_ n4_ n5_ n6_ n7_ n8_ n9_ n10_ n11_ n12_ n13_
          (try clear hb)
          (try clear ho0)
          (try clear ho1)
          refine hK.out _ _ ⟨v9, v14, v17, .slice Ao67 y23.length co67, v29, v32, m4_, (.agg #[.int .u32 t26, .int .i64 t27, v29, v32, .int .u32 t34, .int .u32 t35, .int .i64 t36, .int .u32 t37]), (by rw [ha.out]; exact putSel_upk 9 hb_ rfl rfl rfl), (by (with_reducible repeat (first | apply Kd.V_alloc | apply Kd.V_drewN | apply Kd.V_drew)); exact moV HO_2002.out), (by (with_reducible repeat (first | apply Kd.V_alloc | apply Kd.V_drewN | apply Kd.V_drew)); exact moV HO_2003.out), (by (with_reducible repeat (first | apply Kd.V_alloc | apply Kd.V_drewN | apply Kd.V_drew)); exact moV HO_3002.out), (by (with_reducible repeat (first | apply Kd.V_alloc | apply Kd.V_drewN | apply Kd.V_drew)); exact moV HO_3003.out), (bkW BK1), (bkW BK2), (bkW BK3), (hbW HB), fun _ => (by (with_reducible repeat (first | apply Kd.N_alloc | apply Kd.N_drewN | apply Kd.N_drew)); exact moN HO10.out), fun _ => (by (with_reducible repeat (first | apply Kd.R_alloc | apply Kd.R_drewN | apply Kd.R_drew)); exact moR HO15.out), fun _ => (by (with_reducible repeat (first | apply Kd.R_alloc | apply Kd.R_drewN | apply Kd.R_drew)); exact moR HO18.out), fun _ => (by (with_reducible repeat (first | apply Kd.N_alloc | apply Kd.N_drewN | apply Kd.N_drew)); exact moN HO25.out), fun _ => (by (with_reducible repeat (first | apply Kd.R_alloc | apply Kd.R_drewN | apply Kd.R_drew)); exact moR HO30.out), fun _ => (by (with_reducible repeat (first | apply Kd.R_alloc | apply Kd.R_drewN | apply Kd.R_drew)); exact moR HO33.out), Q_X4_, fun _ => rfl⟩
         refine steps_cons ?_ ?_
         ·
          rintro b a w' ⟨v9, v14, v17, v24, v29, v32, m4_, m9_, ha, Q_HO_2002, Q_HO_2003, Q_HO_3002, Q_HO_3003, Q_BK1, Q_BK2, Q_BK3, Q_HB, Q_HO10, Q_HO15, Q_HO18, Q_HO25, Q_HO30, Q_HO33, Q_X4_, Q_X9_⟩ hb_ hon hoff
          refine ⟨_, rfl, fun K hK => ?_⟩
          have e38 : a.tmps[38]? = some (m4_) := by rw [ha]; exact putSel_on (e := (4, 38, m4_)) 4 rfl rfl (hon 4 (by kernel_rfl)) rfl
          rw [Q_X4_ (hon 4 (by kernel_rfl))] at e38
          have e43 : a.tmps[43]? = some (m9_) := by rw [ha]; exact putSel_on (e := (9, 43, m9_)) 9 rfl rfl (hon 9 (by kernel_rfl)) rfl
          rw [Q_X9_ (hon 9 (by kernel_rfl))] at e43
          replace ha := Aside0.mk ha
          have HO_2002 := Aside0.mk Q_HO_2002
          have HO_2003 := Aside0.mk Q_HO_2003
          have HO_3002 := Aside0.mk Q_HO_3002
          have HO_3003 := Aside0.mk Q_HO_3003
          have BK1 := Aside0.mk Q_BK1
          have BK2 := Aside0.mk Q_BK2
          have BK3 := Aside0.mk Q_BK3
          have HB := Aside0.mk Q_HB
          have HO10 := Aside0.mk (Q_HO10 (hon 2 (by kernel_rfl)))
          have HO15 := Aside0.mk (Q_HO15 (hon 4 (by kernel_rfl)))
          have HO18 := Aside0.mk (Q_HO18 (hon 4 (by kernel_rfl)))
          have HO25 := Aside0.mk (Q_HO25 (hon 7 (by kernel_rfl)))
          have HO30 := Aside0.mk (Q_HO30 (hon 9 (by kernel_rfl)))
          have HO33 := Aside0.mk (Q_HO33 (hon 9 (by kernel_rfl)))
          obtain ⟨Ao69, co69, eo69⟩ := Kd.R_slice HO15.out
          (first | subst eo69 | (injection eo69 with f1_ f2_ f3_; have f4_ := f1_.symm; have f5_ := f3_.symm; clear f1_ f2_ f3_; subst f4_; subst f5_))
          obtain ⟨Ao70, co70, eo70⟩ := Kd.R_slice HO18.out
          (first | subst eo70 | (injection eo70 with f1_ f2_ f3_; have f4_ := f1_.symm; have f5_ := f3_.symm; clear f1_ f2_ f3_; subst f4_; subst f5_))
          obtain ⟨Ao71, co71, eo71⟩ := Kd.R_slice HO30.out
          (first | subst eo71 | (injection eo71 with f1_ f2_ f3_; have f4_ := f1_.symm; have f5_ := f3_.symm; clear f1_ f2_ f3_; subst f4_; subst f5_))
          obtain ⟨Ao72, co72, eo72⟩ := Kd.R_slice HO33.out
          (first | subst eo72 | (injection eo72 with f1_ f2_ f3_; have f4_ := f1_.symm; have f5_ := f3_.symm; clear f1_ f2_ f3_; subst f4_; subst f5_))
          refine goes_ Try.func16 (by kernel_rfl) rfl #[.agg #[.int .u32 t11, .int .i64 t12, .slice Ao69 t13.length co69, .slice Ao70 t16.length co70, .int .u32 t19, .int .u32 t20, .int .i64 t21, .int .u32 t22], .agg #[.int .u32 t26, .int .i64 t27, .slice Ao71 t28.length co71, .slice Ao72 t31.length co72, .int .u32 t34, .int .u32 t35, .int .i64 t36, .int .u32 t37]] (by rfl) rfl rfl (by first | (simp only [List.map_toArray, List.map_cons, List.map_nil, Act.eval, Array.getD_eq_getD_getElem?, Option.getD_some, e38, e43]; done) | (simp only [List.map_toArray, List.map_cons, List.map_nil, Act.eval, Array.getD_eq_getD_getElem?, Option.getD_some, e38, e43]; rfl)) ?_
          with_reducible refine (q4z.calls kj36 t11 t12 _ _ t13 _ _ t16 t19 t20 t21 t22 t26 t27 _ _ t28 _ _ t31 t34 t35 t36 t37 t38 _ ?side1 ?side2 ?side3 ?side4 ?side5 ?side6 ?side7 ?side8 A58.out).mono ?_
          (case side1 => repeat (first | exact (Kd.R_reads' HO15.out).2.2 | (with_reducible refine Kd.C_alloc ?_ _) | (with_reducible refine Kd.C_drewN ?_ _) | (with_reducible refine Kd.C_drew ?_)))
          (case side2 => exact (Kd.R_reads' HO15.out).2.1)
          (case side3 => repeat (first | exact (Kd.R_reads' HO18.out).2.2 | (with_reducible refine Kd.C_alloc ?_ _) | (with_reducible refine Kd.C_drewN ?_ _) | (with_reducible refine Kd.C_drew ?_)))
          (case side4 => exact (Kd.R_reads' HO18.out).2.1)
          (case side5 => repeat (first | exact (Kd.R_reads' HO30.out).2.2 | (with_reducible refine Kd.C_alloc ?_ _) | (with_reducible refine Kd.C_drewN ?_ _) | (with_reducible refine Kd.C_drew ?_)))
          (case side6 => exact (Kd.R_reads' HO30.out).2.1)
          (case side7 => repeat (first | exact (Kd.R_reads' HO33.out).2.2 | (with_reducible refine Kd.C_alloc ?_ _) | (with_reducible refine Kd.C_drewN ?_ _) | (with_reducible refine Kd.C_drew ?_)))
          (case side8 => exact (Kd.R_reads' HO33.out).2.1)
          rintro e w73 ⟨rfl, hb⟩
          refine ⟨_, rfl, ?_⟩
          replace HO_2002 := Aside0.mk (Kd.V_below (by (with_reducible repeat (first | apply Kd.V_alloc | apply Kd.V_drewN | apply Kd.V_drew)); exact HO_2002.out) hb)
          replace HO_2003 := Aside0.mk (Kd.V_below (by (with_reducible repeat (first | apply Kd.V_alloc | apply Kd.V_drewN | apply Kd.V_drew)); exact HO_2003.out) hb)
          replace HO_3002 := Aside0.mk (Kd.V_below (by (with_reducible repeat (first | apply Kd.V_alloc | apply Kd.V_drewN | apply Kd.V_drew)); exact HO_3002.out) hb)
          replace HO_3003 := Aside0.mk (Kd.V_below (by (with_reducible repeat (first | apply Kd.V_alloc | apply Kd.V_drewN | apply Kd.V_drew)); exact HO_3003.out) hb)
          replace HO10 := Aside0.mk (Kd.N_below (by (with_reducible repeat (first | apply Kd.N_alloc | apply Kd.N_drewN | apply Kd.N_drew)); exact HO10.out) hb)
          replace HO15 := Aside0.mk (Kd.R_below (rW HO15) hb)
          replace HO18 := Aside0.mk (Kd.R_below (rW HO18) hb)
          replace HO25 := Aside0.mk (Kd.N_below (by (with_reducible repeat (first | apply Kd.N_alloc | apply Kd.N_drewN | apply Kd.N_drew)); exact HO25.out) hb)
          replace HO30 := Aside0.mk (Kd.R_below (rW HO30) hb)
          replace HO33 := Aside0.mk (Kd.R_below (rW HO33) hb)
          replace BK1 := bkB BK1 hb
          replace BK2 := bkB BK2 hb
          replace BK3 := bkB BK3 hb
          replace HB := hbS HB hb
          (try clear hb)
          refine hK.out _ _ ⟨v9, .slice Ao69 t13.length co69, .slice Ao70 t16.length co70, v24, .slice Ao71 t28.length co71, .slice Ao72 t31.length co72, m4_, m9_, (by rw [ha.out]; exact putSel_upk 10 hb_ rfl rfl rfl), (by (with_reducible repeat (first | apply Kd.V_alloc | apply Kd.V_drewN | apply Kd.V_drew)); exact HO_2002.out), (by (with_reducible repeat (first | apply Kd.V_alloc | apply Kd.V_drewN | apply Kd.V_drew)); exact HO_2003.out), (by (with_reducible repeat (first | apply Kd.V_alloc | apply Kd.V_drewN | apply Kd.V_drew)); exact HO_3002.out), (by (with_reducible repeat (first | apply Kd.V_alloc | apply Kd.V_drewN | apply Kd.V_drew)); exact HO_3003.out), (bkW BK1), (bkW BK2), (bkW BK3), (hbW HB), fun _ => (by (with_reducible repeat (first | apply Kd.N_alloc | apply Kd.N_drewN | apply Kd.N_drew)); exact HO10.out), fun _ => (by (with_reducible repeat (first | apply Kd.R_alloc | apply Kd.R_drewN | apply Kd.R_drew)); first | exact HO15.out | exact Kd.R_mono HO15.out (fun _ hk => hk.1)), fun _ => (by (with_reducible repeat (first | apply Kd.R_alloc | apply Kd.R_drewN | apply Kd.R_drew)); first | exact HO18.out | exact Kd.R_mono HO18.out (fun _ hk => hk.1)), fun _ => (by (with_reducible repeat (first | apply Kd.N_alloc | apply Kd.N_drewN | apply Kd.N_drew)); exact HO25.out), fun _ => (by (with_reducible repeat (first | apply Kd.R_alloc | apply Kd.R_drewN | apply Kd.R_drew)); first | exact HO30.out | exact Kd.R_mono HO30.out (fun _ hk => hk.1)), fun _ => (by (with_reducible repeat (first | apply Kd.R_alloc | apply Kd.R_drewN | apply Kd.R_drew)); first | exact HO33.out | exact Kd.R_mono HO33.out (fun _ hk => hk.1)), Q_X4_, Q_X9_⟩
         refine steps_cons ?_ ?_
         ·
          rintro b a w' ⟨v9, v14, v17, v24, v29, v32, m4_, m9_, ha, Q_HO_2002, Q_HO_2003, Q_HO_3002, Q_HO_3003, Q_BK1, Q_BK2, Q_BK3, Q_HB, Q_HO10, Q_HO15, Q_HO18, Q_HO25, Q_HO30, Q_HO33, Q_X4_, Q_X9_⟩ hb_ hon hoff
          refine ⟨_, rfl, fun K hK => ?_⟩
          have e44 : a.tmps[44]? = some (.int .i64 t38) := by rw [ha]; exact putSel_on (e := (10, 44, .int .i64 t38)) 10 rfl rfl (hon 10 (by kernel_rfl)) rfl
          replace ha := Aside0.mk ha
          have HO_2002 := Aside0.mk Q_HO_2002
          have HO_2003 := Aside0.mk Q_HO_2003
          have HO_3002 := Aside0.mk Q_HO_3002
          have HO_3003 := Aside0.mk Q_HO_3003
          have BK1 := Aside0.mk Q_BK1
          have BK2 := Aside0.mk Q_BK2
          have BK3 := Aside0.mk Q_BK3
          have HB := Aside0.mk Q_HB
          have HO10 := Aside0.mk (Q_HO10 (hon 2 (by kernel_rfl)))
          have HO15 := Aside0.mk (Q_HO15 (hon 4 (by kernel_rfl)))
          have HO18 := Aside0.mk (Q_HO18 (hon 4 (by kernel_rfl)))
          have HO25 := Aside0.mk (Q_HO25 (hon 7 (by kernel_rfl)))
          have HO30 := Aside0.mk (Q_HO30 (hon 9 (by kernel_rfl)))
          have HO33 := Aside0.mk (Q_HO33 (hon 9 (by kernel_rfl)))
          refine value_ (w1 := w') (v := .bool (t38 == 0)) (by rfl) rfl ?_ ?_
          ·
           go_simp
           (try simp only [i64_w])
           try rfl
          refine hK.out _ _ ⟨v9, v14, v17, v24, v29, v32, m4_, m9_, (by rw [ha.out]; exact putSel_upk 11 hb_ rfl rfl rfl), Q_HO_2002, Q_HO_2003, Q_HO_3002, Q_HO_3003, Q_BK1, Q_BK2, Q_BK3, Q_HB, Q_HO10, Q_HO15, Q_HO18, Q_HO25, Q_HO30, Q_HO33, Q_X4_, Q_X9_⟩
         refine steps_cons ?_ ?_
         ·
          rintro b a w' ⟨v9, v14, v17, v24, v29, v32, m4_, m9_, ha, Q_HO_2002, Q_HO_2003, Q_HO_3002, Q_HO_3003, Q_BK1, Q_BK2, Q_BK3, Q_HB, Q_HO10, Q_HO15, Q_HO18, Q_HO25, Q_HO30, Q_HO33, Q_X4_, Q_X9_⟩ hb_ hon hoff
          refine ⟨_, rfl, fun K hK => ?_⟩
          have e45 : a.tmps[45]? = some (.bool (t38 == 0)) := by rw [ha]; exact putSel_on (e := (11, 45, .bool (t38 == 0))) 11 rfl rfl (hon 11 (by kernel_rfl)) rfl
          replace ha := Aside0.mk ha
          have HO_2002 := Aside0.mk Q_HO_2002
          have HO_2003 := Aside0.mk Q_HO_2003
          have HO_3002 := Aside0.mk Q_HO_3002
          have HO_3003 := Aside0.mk Q_HO_3003
          have BK1 := Aside0.mk Q_BK1
          have BK2 := Aside0.mk Q_BK2
          have BK3 := Aside0.mk Q_BK3
          have HB := Aside0.mk Q_HB
          have HO10 := Aside0.mk (Q_HO10 (hon 2 (by kernel_rfl)))
          have HO15 := Aside0.mk (Q_HO15 (hon 4 (by kernel_rfl)))
          have HO18 := Aside0.mk (Q_HO18 (hon 4 (by kernel_rfl)))
          have HO25 := Aside0.mk (Q_HO25 (hon 7 (by kernel_rfl)))
          have HO30 := Aside0.mk (Q_HO30 (hon 9 (by kernel_rfl)))
          have HO33 := Aside0.mk (Q_HO33 (hon 9 (by kernel_rfl)))
          refine value_ (w1 := w') (v := .bool (t38 == 0)) (by rfl) rfl ?_ ?_
          ·
           go_simp
           (try simp only [i64_w])
           try rfl
          refine hK.out _ _ ⟨v9, v14, v17, v24, v29, v32, m4_, m9_, (by rw [ha.out]; exact putSel_upk 12 hb_ rfl rfl rfl), Q_HO_2002, Q_HO_2003, Q_HO_3002, Q_HO_3003, Q_BK1, Q_BK2, Q_BK3, Q_HB, Q_HO10, Q_HO15, Q_HO18, Q_HO25, Q_HO30, Q_HO33, Q_X4_, Q_X9_⟩
         exact steps_nil
        rintro b a w73 hall ⟨v9, v14, v17, v24, v29, v32, m4_, m9_, ha, Q_HO_2002, Q_HO_2003, Q_HO_3002, Q_HO_3003, Q_BK1, Q_BK2, Q_BK3, Q_HB, Q_HO10, Q_HO15, Q_HO18, Q_HO25, Q_HO30, Q_HO33, Q_X4_, Q_X9_⟩
        clear BK1 BK2 BK3 HB HO_2002 HO_2003 HO_3002 HO_3003
        have hb0_ := hall 0 (by kernel_rfl)
        have hb1_ := hall 1 (by kernel_rfl)
        have hb2_ := hall 2 (by kernel_rfl)
        have hb3_ := hall 3 (by kernel_rfl)
        have hb4_ := hall 4 (by kernel_rfl)
        have hb5_ := hall 5 (by kernel_rfl)
        have hb6_ := hall 6 (by kernel_rfl)
        have hb7_ := hall 7 (by kernel_rfl)
        have hb8_ := hall 8 (by kernel_rfl)
        have hb9_ := hall 9 (by kernel_rfl)
        have hb10_ := hall 10 (by kernel_rfl)
        have hb11_ := hall 11 (by kernel_rfl)
        have hb12_ := hall 12 (by kernel_rfl)
        subst ha
        obtain rfl := Q_X4_ hb4_
        obtain rfl := Q_X9_ hb9_
        simp only [putSel, hb0_, hb1_, hb2_, hb3_, hb4_, hb5_, hb6_, hb7_, hb8_, hb9_, hb10_, hb11_, hb12_, if_true, Act.put, List.setIfInBounds_toArray, List.set_cons_zero, List.set_cons_succ]
        have HO_2002 := Aside0.mk Q_HO_2002
        clear Q_HO_2002
        have HO_2003 := Aside0.mk Q_HO_2003
        clear Q_HO_2003
        have HO_3002 := Aside0.mk Q_HO_3002
        clear Q_HO_3002
        have HO_3003 := Aside0.mk Q_HO_3003
        clear Q_HO_3003
        have BK1 := Aside0.mk Q_BK1
        clear Q_BK1
        have BK2 := Aside0.mk Q_BK2
        clear Q_BK2
        have BK3 := Aside0.mk Q_BK3
        clear Q_BK3
        have HB := Aside0.mk Q_HB
        clear Q_HB
        have HO10 := Aside0.mk (Q_HO10 hb2_)
        clear Q_HO10
        have HO15 := Aside0.mk (Q_HO15 hb4_)
        clear Q_HO15
        have HO18 := Aside0.mk (Q_HO18 hb4_)
        clear Q_HO18
        have HO25 := Aside0.mk (Q_HO25 hb7_)
        clear Q_HO25
        have HO30 := Aside0.mk (Q_HO30 hb9_)
        clear Q_HO30
        have HO33 := Aside0.mk (Q_HO33 hb9_)
        clear Q_HO33 hall hb0_ hb1_ hb2_ hb3_ hb4_ hb5_ hb6_ hb7_ hb8_ hb9_ hb10_ hb11_ hb12_
        try go_wp2
        go_ret
        exact ⟨by first | rfl | (simp [errW_none, errW_some] <;> rfl) | (simp [*, errW_none, errW_some] <;> rfl), hbW HB⟩
 ·
  replace c5 := Bool.eq_false_iff.mpr c5
  subst c5
  have H1 : (some false) = some r := by rw [if_neg (show ¬ (false = true) by decide)] at H; exact H
  clear H
  have H := H1
  clear H1
  obtain rfl := Option.some.inj H
  go_enter Try.func7, Try.ntmps7
  go_wp2_with (first | ((with_reducible refine gate_dst (N := 3) rfl ?_); refine box_event ?hg (N := 3) ?hd (cs := #[.int .i64 a0_0, .int .u32 a0_1, .slice A0_2 l0_2.length c0_2, .slice A0_3 l0_3.length c0_3]) (t := 26) ?hr ?_; (case hd => rfl); (case hg => rfl); (case hr => first | (go_simp; done) | (go_simp; rfl)); intro gb1 hg w74 hbox hb; have BK1 := Aside0.mk (hbox); have GW1 := Aside0.mk ((by rw [hg]; exact (below_size (hbW HB)) : w.heap.size ≤ gb1)); have GE1 := Aside0.mk ((by rw [hg]; exact (below_size (hbW HB)) : w.heap.size ≤ gb1)); replace HO0_2 := Aside0.mk (Kd.V_below (Kd.V_elderB (by (with_reducible repeat (first | apply Kd.V_alloc | apply Kd.V_drewN | apply Kd.V_drew)); exact HO0_2.out) gb1 (Nat.le_of_eq hg.symm)) hb); replace HO0_3 := Aside0.mk (Kd.V_below (Kd.V_elderB (by (with_reducible repeat (first | apply Kd.V_alloc | apply Kd.V_drewN | apply Kd.V_drew)); exact HO0_3.out) gb1 (Nat.le_of_eq hg.symm)) hb); replace HO1_2 := Aside0.mk (Kd.V_below (Kd.V_elderB (by (with_reducible repeat (first | apply Kd.V_alloc | apply Kd.V_drewN | apply Kd.V_drew)); exact HO1_2.out) gb1 (Nat.le_of_eq hg.symm)) hb); replace HO1_3 := Aside0.mk (Kd.V_below (Kd.V_elderB (by (with_reducible repeat (first | apply Kd.V_alloc | apply Kd.V_drewN | apply Kd.V_drew)); exact HO1_3.out) gb1 (Nat.le_of_eq hg.symm)) hb); replace HB := hbS HB hb; clear hb hbox hg) | ((with_reducible refine gate_dst (N := 4) rfl ?_); refine box_event ?hg (N := 4) ?hd (cs := #[.int .i64 a1_0, .int .u32 a1_1, .slice A1_2 l1_2.length c1_2, .slice A1_3 l1_3.length c1_3]) (t := 26) ?hr ?_; (case hd => rfl); (case hg => rfl); (case hr => first | (go_simp; done) | (go_simp; rfl)); intro gb2 hg w75 hbox hb; have BK2 := Aside0.mk (hbox); have GW2 := Aside0.mk ((by rw [hg]; exact (below_size (hbW HB)) : w.heap.size ≤ gb2)); have GE2 := Aside0.mk ((by rw [hg]; exact (below_size (hbW HB)) : w.heap.size ≤ gb2)); have NB1_2 := Aside0.mk ((by rw [hg]; exact Nat.ne_of_lt (blk_lt (bkW BK1)) : gb1 ≠ gb2)); have NB2_1 := Aside0.mk ((by rw [hg]; exact Nat.ne_of_gt (blk_lt (bkW BK1)) : gb2 ≠ gb1)); replace HO0_2 := Aside0.mk (Kd.V_below (Kd.V_elderB (by (with_reducible repeat (first | apply Kd.V_alloc | apply Kd.V_drewN | apply Kd.V_drew)); exact HO0_2.out) gb2 (Nat.le_of_eq hg.symm)) hb); replace HO0_3 := Aside0.mk (Kd.V_below (Kd.V_elderB (by (with_reducible repeat (first | apply Kd.V_alloc | apply Kd.V_drewN | apply Kd.V_drew)); exact HO0_3.out) gb2 (Nat.le_of_eq hg.symm)) hb); replace HO1_2 := Aside0.mk (Kd.V_below (Kd.V_elderB (by (with_reducible repeat (first | apply Kd.V_alloc | apply Kd.V_drewN | apply Kd.V_drew)); exact HO1_2.out) gb2 (Nat.le_of_eq hg.symm)) hb); replace HO1_3 := Aside0.mk (Kd.V_below (Kd.V_elderB (by (with_reducible repeat (first | apply Kd.V_alloc | apply Kd.V_drewN | apply Kd.V_drew)); exact HO1_3.out) gb2 (Nat.le_of_eq hg.symm)) hb); replace BK1 := bkB BK1 hb; replace HB := hbS HB hb; clear hb hbox hg) | ((with_reducible refine gate_dst (N := 5) rfl ?_); refine box_event ?hg (N := 5) ?hd (cs := #[.int .u32 a2_0, .int .i64 a2_1, .slice A2_2 l2_2.length c2_2, .slice A2_3 l2_3.length c2_3, .int .u32 a2_4, .int .u32 a2_5, .int .i64 a2_6, .int .u32 a2_7]) (t := 30) ?hr ?_; (case hd => rfl); (case hg => rfl); (case hr => first | (go_simp; done) | (go_simp; rfl)); intro gb3 hg w76 hbox hb; have BK3 := Aside0.mk (hbox); have GW3 := Aside0.mk ((by rw [hg]; exact (below_size (hbW HB)) : w.heap.size ≤ gb3)); have GE3 := Aside0.mk ((by rw [hg]; exact (below_size (hbW HB)) : w.heap.size ≤ gb3)); have NB1_3 := Aside0.mk ((by rw [hg]; exact Nat.ne_of_lt (blk_lt (bkW BK1)) : gb1 ≠ gb3)); have NB3_1 := Aside0.mk ((by rw [hg]; exact Nat.ne_of_gt (blk_lt (bkW BK1)) : gb3 ≠ gb1)); have NB2_3 := Aside0.mk ((by rw [hg]; exact Nat.ne_of_lt (blk_lt (bkW BK2)) : gb2 ≠ gb3)); have NB3_2 := Aside0.mk ((by rw [hg]; exact Nat.ne_of_gt (blk_lt (bkW BK2)) : gb3 ≠ gb2)); replace HO0_2 := Aside0.mk (Kd.V_below (Kd.V_elderB (by (with_reducible repeat (first | apply Kd.V_alloc | apply Kd.V_drewN | apply Kd.V_drew)); exact HO0_2.out) gb3 (Nat.le_of_eq hg.symm)) hb); replace HO0_3 := Aside0.mk (Kd.V_below (Kd.V_elderB (by (with_reducible repeat (first | apply Kd.V_alloc | apply Kd.V_drewN | apply Kd.V_drew)); exact HO0_3.out) gb3 (Nat.le_of_eq hg.symm)) hb); replace HO1_2 := Aside0.mk (Kd.V_below (Kd.V_elderB (by (with_reducible repeat (first | apply Kd.V_alloc | apply Kd.V_drewN | apply Kd.V_drew)); exact HO1_2.out) gb3 (Nat.le_of_eq hg.symm)) hb); replace HO1_3 := Aside0.mk (Kd.V_below (Kd.V_elderB (by (with_reducible repeat (first | apply Kd.V_alloc | apply Kd.V_drewN | apply Kd.V_drew)); exact HO1_3.out) gb3 (Nat.le_of_eq hg.symm)) hb); replace BK1 := bkB BK1 hb; replace BK2 := bkB BK2 hb; replace HB := hbS HB hb; clear hb hbox hg) | ((with_reducible refine gate_callee (f := 8) rfl ?_); refine goesL_ (some 7) rfl rfl Try.func8 (by kernel_rfl) rfl #[] rfl (by (try simp only [List.map_toArray, List.map_cons, List.map_nil]); first | done | rfl | (simp only [List.length_drop, List.length_take]; rfl)) ?_; (with_reducible refine (q14z.calls k  false _ A4.out).mono ?_); rintro e w77 ⟨rfl, hb⟩; refine ⟨_, rfl, ?_⟩; replace HO0_2 := Aside0.mk (Kd.V_below (by (with_reducible repeat (first | apply Kd.V_alloc | apply Kd.V_drewN | apply Kd.V_drew)); exact HO0_2.out) hb); replace HO0_3 := Aside0.mk (Kd.V_below (by (with_reducible repeat (first | apply Kd.V_alloc | apply Kd.V_drewN | apply Kd.V_drew)); exact HO0_3.out) hb); replace HO1_2 := Aside0.mk (Kd.V_below (by (with_reducible repeat (first | apply Kd.V_alloc | apply Kd.V_drewN | apply Kd.V_drew)); exact HO1_2.out) hb); replace HO1_3 := Aside0.mk (Kd.V_below (by (with_reducible repeat (first | apply Kd.V_alloc | apply Kd.V_drewN | apply Kd.V_drew)); exact HO1_3.out) hb); replace BK1 := bkB BK1 hb; replace BK2 := bkB BK2 hb; replace BK3 := bkB BK3 hb; replace HB := hbS HB hb; (try clear hb)))
  go_ret
  exact ⟨by first | rfl | (simp [errW_none, errW_some] <;> rfl) | (simp [*, errW_none, errW_some] <;> rfl), hbW HB⟩

end Go.Proofs.Ytgelpccjdndfoaa.P

namespace Go.Proofs.Ytgelpccjdndfoaa.P
open Go.RowKit Go.Proofs.YtgelpccjdndfoaaW.PrintWords Go.Proofs.YtgelpccjdndfoaaW.PrintLast Go.Proofs.YtgelpccjdndfoaaW.PrintMore Go.ChangeShapes Go.WideShapes
set_option linter.unusedVariables false
section
variable {H : Type} {enc : TypeId × Value → H} {P : Program} {w : World} {base : Nat} {spare : Nat → Bool} {held : Bool}
/-- Whatever reads as data of type T is a value of kind d. -/
def Opens (enc : TypeId × Value → H) (P : Program) (w : World) (base : Nat) (spare : Nat → Bool) (held : Bool) {α : Type} (d : Kd α) (T : TypeId) (good : α → Prop) : Prop :=
  ∀ fuel cs y, DataW.trod enc P w base spare held fuel T cs = some y → ∃ x, d.K w x cs ∧ good x
theorem opens_int {k : IntKind} {T : TypeId} (ht : P.underlying T = some (.int k)) : Opens enc P w base spare held (Kd.int k) T (fun n => (Lit.int k n).wf = true) := by
  intro fuel cs y h
  obtain ⟨n, rfl, _, hw⟩ := DataW.trod_int ht h
  exact ⟨n, rfl, hw⟩
theorem opens_bool {T : TypeId} (ht : P.underlying T = some .bool) : Opens enc P w base spare held Kd.bool T (fun _ => True) := by
  intro fuel cs y h
  cases fuel with
  | zero => simp [DataW.trod] at h
  | succ n =>
    unfold DataW.trod at h
    rw [ht] at h
    split at h
    all_goals first | exact ⟨_, rfl, trivial⟩ | (exfalso; simp_all; done)
theorem pick_list {α : Type} {Q : Nat → α → Prop} : ∀ n : Nat, (∀ i, i < n → ∃ x, Q i x) → ∃ xs : List α, xs.length = n ∧ ∀ i x, xs[i]? = some x → Q i x
  | 0, _ => ⟨[], rfl, fun i x h => by simp at h⟩
  | n + 1, h => by
    obtain ⟨xs, hl, hx⟩ := pick_list n (fun i hi => h i (by omega))
    obtain ⟨x, hxn⟩ := h n (by omega)
    refine ⟨xs ++ [x], by simp [hl], fun i z hz => ?_⟩
    by_cases hi : i < n
    · rw [List.getElem?_append_left (by omega)] at hz
      exact hx i z hz
    · rw [List.getElem?_append_right (by omega)] at hz
      have hi0 : i - xs.length = 0 := by
        have := (List.getElem?_eq_some_iff.1 hz).1
        simp at this
        omega
      rw [hi0] at hz
      have : x = z := by simpa using hz
      subst this
      have : i = n := by omega
      subst this
      exact hxn
theorem opens_slice {α : Type} {d : Kd α} {T e : TypeId} {good : α → Prop} (ht : P.underlying T = some (.slice e)) (hce : P.cellsOf e = d.sz) (ho : Opens enc P w base spare held d e good) :
    Opens enc P w base spare held (Kd.slice e d) T (fun xs => xs.length ≤ 9223372036854775807 ∧ ∀ x ∈ xs, good x) := by
  intro fuel cs y h
  rcases Go.Deep.open_slice ht h with ⟨rfl, _⟩ | ⟨a, len, cap, m, n, D, Pl, rfl, hb, hl, hm, hmm, _, hx⟩
  · exact ⟨[], ⟨none, 0, rfl, Nat.le_refl _, ⟨rfl, by simp, fun h => absurd h (by simp)⟩⟩, by simp, fun x hx => (List.not_mem_nil hx).elim⟩
  · have hlm : len ≤ m := by rw [hmm]; split <;> omega
    have each : ∀ i, i < len → ∃ q : α × List Value, w.cells? base (a.add (i * d.sz)) d.sz = some q.2 ∧ d.K w q.1 q.2 ∧ good q.1 := fun i hi => by
      obtain ⟨cs', h1, h2⟩ := hx i (by omega)
      obtain ⟨x, hk, hg⟩ := ho _ _ _ h2
      rw [hce] at h1
      exact ⟨(x, cs'), h1, hk, hg⟩
    obtain ⟨qs, hql, hq⟩ := pick_list len each
    refine ⟨qs.map (·.1), ⟨some a, cap, by simp [hql], by simp [hql]; omega, ?_⟩, by simp only [List.length_map, hql]; unfold maxLen at hm; omega, ?_⟩
    · refine ⟨rfl, by simp only [List.length_map, hql]; unfold maxLen at hm; omega, fun _ => ⟨a, rfl, fun j p hp => ?_⟩⟩
      rw [List.getElem?_map] at hp
      obtain ⟨q, hqj, rfl⟩ := Option.map_eq_some_iff.1 hp
      obtain ⟨h1, h2, _⟩ := hq j q hqj
      obtain ⟨_, h4, h5⟩ := World.cells?_some h1
      refine ⟨q.2, h4, h2, fun i u hu => ?_⟩
      have hi : i < d.sz := by have := (List.getElem?_eq_some_iff.1 hu).1; omega
      have h6 := h5 i hi
      rw [add_add] at h6
      rw [h6, hu]
    · intro x hx'
      obtain ⟨q, hq', rfl⟩ := List.mem_map.1 hx'
      obtain ⟨i, hi⟩ := List.getElem?_of_mem hq'
      exact (hq i q hi).2.2
end
end Go.Proofs.Ytgelpccjdndfoaa.P

namespace Go.Proofs.Ytgelpccjdndfoaa.P
open Go.RowKit Go.Proofs.YtgelpccjdndfoaaW.PrintWords Go.Proofs.YtgelpccjdndfoaaW.PrintMore Go.ChangeShapes Go.WideShapes
set_option linter.unusedVariables false
def good50 (x : S50) : Prop := (Lit.int .u32 x.f0).wf = true ∧ (Lit.int .u32 x.f1).wf = true
theorem opens_T50 {H : Type} {enc : TypeId × Value → H} {w : World} {base : Nat} {spare : Nat → Bool} {held : Bool} : Opens enc Try.prog w base spare held k50 50 good50 := by
  intro fuel cs y h
  obtain ⟨xs, n, _, _, hlen, hxl, hf⟩ := DataW.trod_struct Try.underlying50 h
  have hcs : cs.length = 2 := hlen.trans (by kernel_rfl)
  have h0 := hf 0 _ rfl
  obtain ⟨y0, e0⟩ : ∃ y_, xs[0]? = some y_ := ⟨_, List.getElem?_eq_getElem (by rw [hxl]; decide)⟩
  rw [e0] at h0
  have q0 : DataW.trod enc Try.prog w base spare held n 22 ((cs.drop 0).take 1) = some y0 := (congrArg (fun z => DataW.trod enc Try.prog w base spare held n 22 ((cs.drop 0).take z)) (show 1 = Try.prog.cellsOf 22 from by kernel_rfl)).trans h0
  obtain ⟨x0, k0_, g0⟩ := (opens_int Try.underlying22) _ _ _ q0
  have h1 := hf 1 _ rfl
  obtain ⟨y1, e1⟩ : ∃ y_, xs[1]? = some y_ := ⟨_, List.getElem?_eq_getElem (by rw [hxl]; decide)⟩
  rw [e1] at h1
  have q1 : DataW.trod enc Try.prog w base spare held n 22 ((cs.drop 1).take 1) = some y1 := (congrArg (fun z => DataW.trod enc Try.prog w base spare held n 22 ((cs.drop 1).take z)) (show 1 = Try.prog.cellsOf 22 from by kernel_rfl)).trans h1
  obtain ⟨x1, k1_, g1⟩ := (opens_int Try.underlying22) _ _ _ q1
  have s0 : cs.drop 0 = (cs.drop 0).take 1 ++ cs.drop 1 := by have e_ := (List.take_append_drop 1 (cs.drop 0)).symm; rwa [List.drop_drop] at e_
  have s1 : cs.drop 1 = (cs.drop 1).take 1 := (List.take_of_length_le (by rw [List.length_drop, hcs]; decide)).symm
  exact ⟨⟨x0, x1⟩, ⟨(cs.drop 0).take 1, cs.drop 1, (show cs = _ from s0), k0_, (by rw [s1]; exact k1_)⟩, g0, g1⟩
def good53 (x : S53) : Prop := True ∧ (x.f1.length ≤ 9223372036854775807 ∧ ∀ z_ ∈ x.f1, good50 z_)
theorem opens_T53 {H : Type} {enc : TypeId × Value → H} {w : World} {base : Nat} {spare : Nat → Bool} {held : Bool} : Opens enc Try.prog w base spare held k53 53 good53 := by
  intro fuel cs y h
  obtain ⟨xs, n, _, _, hlen, hxl, hf⟩ := DataW.trod_struct Try.underlying53 h
  have hcs : cs.length = 2 := hlen.trans (by kernel_rfl)
  have h0 := hf 0 _ rfl
  obtain ⟨y0, e0⟩ : ∃ y_, xs[0]? = some y_ := ⟨_, List.getElem?_eq_getElem (by rw [hxl]; decide)⟩
  rw [e0] at h0
  have q0 : DataW.trod enc Try.prog w base spare held n 4 ((cs.drop 0).take 1) = some y0 := (congrArg (fun z => DataW.trod enc Try.prog w base spare held n 4 ((cs.drop 0).take z)) (show 1 = Try.prog.cellsOf 4 from by kernel_rfl)).trans h0
  obtain ⟨x0, k0_, g0⟩ := (opens_bool Try.underlying4) _ _ _ q0
  have h1 := hf 1 _ rfl
  obtain ⟨y1, e1⟩ : ∃ y_, xs[1]? = some y_ := ⟨_, List.getElem?_eq_getElem (by rw [hxl]; decide)⟩
  rw [e1] at h1
  have q1 : DataW.trod enc Try.prog w base spare held n 51 ((cs.drop 1).take 1) = some y1 := (congrArg (fun z => DataW.trod enc Try.prog w base spare held n 51 ((cs.drop 1).take z)) (show 1 = Try.prog.cellsOf 51 from by kernel_rfl)).trans h1
  obtain ⟨x1, k1_, g1⟩ := (opens_slice Try.underlying51 (by kernel_rfl) opens_T50) _ _ _ q1
  have s0 : cs.drop 0 = (cs.drop 0).take 1 ++ cs.drop 1 := by have e_ := (List.take_append_drop 1 (cs.drop 0)).symm; rwa [List.drop_drop] at e_
  have s1 : cs.drop 1 = (cs.drop 1).take 1 := (List.take_of_length_le (by rw [List.length_drop, hcs]; decide)).symm
  exact ⟨⟨x0, x1⟩, ⟨(cs.drop 0).take 1, cs.drop 1, (show cs = _ from s0), k0_, (by rw [s1]; exact k1_)⟩, g0, g1⟩
def good26 (x : S26) : Prop := (Lit.int .i64 x.f0).wf = true ∧ (Lit.int .u32 x.f1).wf = true ∧ (x.f2.length ≤ 9223372036854775807 ∧ ∀ z_ ∈ x.f2, (Lit.int .u32 z_).wf = true) ∧ (x.f3.length ≤ 9223372036854775807 ∧ ∀ z_ ∈ x.f3, good53 z_)
theorem opens_T26 {H : Type} {enc : TypeId × Value → H} {w : World} {base : Nat} {spare : Nat → Bool} {held : Bool} : Opens enc Try.prog w base spare held k26 26 good26 := by
  intro fuel cs y h
  obtain ⟨xs, n, _, _, hlen, hxl, hf⟩ := DataW.trod_struct Try.underlying26 h
  have hcs : cs.length = 4 := hlen.trans (by kernel_rfl)
  have h0 := hf 0 _ rfl
  obtain ⟨y0, e0⟩ : ∃ y_, xs[0]? = some y_ := ⟨_, List.getElem?_eq_getElem (by rw [hxl]; decide)⟩
  rw [e0] at h0
  have q0 : DataW.trod enc Try.prog w base spare held n 3 ((cs.drop 0).take 1) = some y0 := (congrArg (fun z => DataW.trod enc Try.prog w base spare held n 3 ((cs.drop 0).take z)) (show 1 = Try.prog.cellsOf 3 from by kernel_rfl)).trans h0
  obtain ⟨x0, k0_, g0⟩ := (opens_int Try.underlying3) _ _ _ q0
  have h1 := hf 1 _ rfl
  obtain ⟨y1, e1⟩ : ∃ y_, xs[1]? = some y_ := ⟨_, List.getElem?_eq_getElem (by rw [hxl]; decide)⟩
  rw [e1] at h1
  have q1 : DataW.trod enc Try.prog w base spare held n 22 ((cs.drop 1).take 1) = some y1 := (congrArg (fun z => DataW.trod enc Try.prog w base spare held n 22 ((cs.drop 1).take z)) (show 1 = Try.prog.cellsOf 22 from by kernel_rfl)).trans h1
  obtain ⟨x1, k1_, g1⟩ := (opens_int Try.underlying22) _ _ _ q1
  have h2 := hf 2 _ rfl
  obtain ⟨y2, e2⟩ : ∃ y_, xs[2]? = some y_ := ⟨_, List.getElem?_eq_getElem (by rw [hxl]; decide)⟩
  rw [e2] at h2
  have q2 : DataW.trod enc Try.prog w base spare held n 23 ((cs.drop 2).take 1) = some y2 := (congrArg (fun z => DataW.trod enc Try.prog w base spare held n 23 ((cs.drop 2).take z)) (show 1 = Try.prog.cellsOf 23 from by kernel_rfl)).trans h2
  obtain ⟨x2, k2_, g2⟩ := (opens_slice Try.underlying23 (by kernel_rfl) (opens_int Try.underlying22)) _ _ _ q2
  have h3 := hf 3 _ rfl
  obtain ⟨y3, e3⟩ : ∃ y_, xs[3]? = some y_ := ⟨_, List.getElem?_eq_getElem (by rw [hxl]; decide)⟩
  rw [e3] at h3
  have q3 : DataW.trod enc Try.prog w base spare held n 24 ((cs.drop 3).take 1) = some y3 := (congrArg (fun z => DataW.trod enc Try.prog w base spare held n 24 ((cs.drop 3).take z)) (show 1 = Try.prog.cellsOf 24 from by kernel_rfl)).trans h3
  obtain ⟨x3, k3_, g3⟩ := (opens_slice Try.underlying24 (by kernel_rfl) opens_T53) _ _ _ q3
  have s0 : cs.drop 0 = (cs.drop 0).take 1 ++ cs.drop 1 := by have e_ := (List.take_append_drop 1 (cs.drop 0)).symm; rwa [List.drop_drop] at e_
  have s1 : cs.drop 1 = (cs.drop 1).take 1 ++ cs.drop 2 := by have e_ := (List.take_append_drop 1 (cs.drop 1)).symm; rwa [List.drop_drop] at e_
  have s2 : cs.drop 2 = (cs.drop 2).take 1 ++ cs.drop 3 := by have e_ := (List.take_append_drop 1 (cs.drop 2)).symm; rwa [List.drop_drop] at e_
  have s3 : cs.drop 3 = (cs.drop 3).take 1 := (List.take_of_length_le (by rw [List.length_drop, hcs]; decide)).symm
  exact ⟨⟨x0, x1, x2, x3⟩, ⟨(cs.drop 0).take 1, cs.drop 1, (show cs = _ from s0), k0_, ⟨(cs.drop 1).take 1, cs.drop 2, s1, k1_, ⟨(cs.drop 2).take 1, cs.drop 3, s2, k2_, (by rw [s3]; exact k3_)⟩⟩⟩, g0, g1, g2, g3⟩
def good28 (x : S28) : Prop := (Lit.int .u32 x.f0).wf = true ∧ (Lit.int .i64 x.f1).wf = true
theorem opens_T28 {H : Type} {enc : TypeId × Value → H} {w : World} {base : Nat} {spare : Nat → Bool} {held : Bool} : Opens enc Try.prog w base spare held k28 28 good28 := by
  intro fuel cs y h
  obtain ⟨xs, n, _, _, hlen, hxl, hf⟩ := DataW.trod_struct Try.underlying28 h
  have hcs : cs.length = 2 := hlen.trans (by kernel_rfl)
  have h0 := hf 0 _ rfl
  obtain ⟨y0, e0⟩ : ∃ y_, xs[0]? = some y_ := ⟨_, List.getElem?_eq_getElem (by rw [hxl]; decide)⟩
  rw [e0] at h0
  have q0 : DataW.trod enc Try.prog w base spare held n 22 ((cs.drop 0).take 1) = some y0 := (congrArg (fun z => DataW.trod enc Try.prog w base spare held n 22 ((cs.drop 0).take z)) (show 1 = Try.prog.cellsOf 22 from by kernel_rfl)).trans h0
  obtain ⟨x0, k0_, g0⟩ := (opens_int Try.underlying22) _ _ _ q0
  have h1 := hf 1 _ rfl
  obtain ⟨y1, e1⟩ : ∃ y_, xs[1]? = some y_ := ⟨_, List.getElem?_eq_getElem (by rw [hxl]; decide)⟩
  rw [e1] at h1
  have q1 : DataW.trod enc Try.prog w base spare held n 3 ((cs.drop 1).take 1) = some y1 := (congrArg (fun z => DataW.trod enc Try.prog w base spare held n 3 ((cs.drop 1).take z)) (show 1 = Try.prog.cellsOf 3 from by kernel_rfl)).trans h1
  obtain ⟨x1, k1_, g1⟩ := (opens_int Try.underlying3) _ _ _ q1
  have s0 : cs.drop 0 = (cs.drop 0).take 1 ++ cs.drop 1 := by have e_ := (List.take_append_drop 1 (cs.drop 0)).symm; rwa [List.drop_drop] at e_
  have s1 : cs.drop 1 = (cs.drop 1).take 1 := (List.take_of_length_le (by rw [List.length_drop, hcs]; decide)).symm
  exact ⟨⟨x0, x1⟩, ⟨(cs.drop 0).take 1, cs.drop 1, (show cs = _ from s0), k0_, (by rw [s1]; exact k1_)⟩, g0, g1⟩
def good30 (x : S30) : Prop := good28 x.f0 ∧ (x.f1.length ≤ 9223372036854775807 ∧ ∀ z_ ∈ x.f1, (Lit.int .u32 z_).wf = true) ∧ (x.f2.length ≤ 9223372036854775807 ∧ ∀ z_ ∈ x.f2, (Lit.int .u32 z_).wf = true) ∧ (Lit.int .u32 x.f3).wf = true ∧ (Lit.int .u32 x.f4).wf = true ∧ (Lit.int .i64 x.f5).wf = true ∧ (Lit.int .u32 x.f6).wf = true
theorem opens_T30 {H : Type} {enc : TypeId × Value → H} {w : World} {base : Nat} {spare : Nat → Bool} {held : Bool} : Opens enc Try.prog w base spare held k30 30 good30 := by
  intro fuel cs y h
  obtain ⟨xs, n, _, _, hlen, hxl, hf⟩ := DataW.trod_struct Try.underlying30 h
  have hcs : cs.length = 8 := hlen.trans (by kernel_rfl)
  have h0 := hf 0 _ rfl
  obtain ⟨y0, e0⟩ : ∃ y_, xs[0]? = some y_ := ⟨_, List.getElem?_eq_getElem (by rw [hxl]; decide)⟩
  rw [e0] at h0
  have q0 : DataW.trod enc Try.prog w base spare held n 28 ((cs.drop 0).take 2) = some y0 := (congrArg (fun z => DataW.trod enc Try.prog w base spare held n 28 ((cs.drop 0).take z)) (show 2 = Try.prog.cellsOf 28 from by kernel_rfl)).trans h0
  obtain ⟨x0, k0_, g0⟩ := opens_T28 _ _ _ q0
  have h1 := hf 1 _ rfl
  obtain ⟨y1, e1⟩ : ∃ y_, xs[1]? = some y_ := ⟨_, List.getElem?_eq_getElem (by rw [hxl]; decide)⟩
  rw [e1] at h1
  have q1 : DataW.trod enc Try.prog w base spare held n 23 ((cs.drop 2).take 1) = some y1 := (congrArg (fun z => DataW.trod enc Try.prog w base spare held n 23 ((cs.drop 2).take z)) (show 1 = Try.prog.cellsOf 23 from by kernel_rfl)).trans h1
  obtain ⟨x1, k1_, g1⟩ := (opens_slice Try.underlying23 (by kernel_rfl) (opens_int Try.underlying22)) _ _ _ q1
  have h2 := hf 2 _ rfl
  obtain ⟨y2, e2⟩ : ∃ y_, xs[2]? = some y_ := ⟨_, List.getElem?_eq_getElem (by rw [hxl]; decide)⟩
  rw [e2] at h2
  have q2 : DataW.trod enc Try.prog w base spare held n 23 ((cs.drop 3).take 1) = some y2 := (congrArg (fun z => DataW.trod enc Try.prog w base spare held n 23 ((cs.drop 3).take z)) (show 1 = Try.prog.cellsOf 23 from by kernel_rfl)).trans h2
  obtain ⟨x2, k2_, g2⟩ := (opens_slice Try.underlying23 (by kernel_rfl) (opens_int Try.underlying22)) _ _ _ q2
  have h3 := hf 3 _ rfl
  obtain ⟨y3, e3⟩ : ∃ y_, xs[3]? = some y_ := ⟨_, List.getElem?_eq_getElem (by rw [hxl]; decide)⟩
  rw [e3] at h3
  have q3 : DataW.trod enc Try.prog w base spare held n 22 ((cs.drop 4).take 1) = some y3 := (congrArg (fun z => DataW.trod enc Try.prog w base spare held n 22 ((cs.drop 4).take z)) (show 1 = Try.prog.cellsOf 22 from by kernel_rfl)).trans h3
  obtain ⟨x3, k3_, g3⟩ := (opens_int Try.underlying22) _ _ _ q3
  have h4 := hf 4 _ rfl
  obtain ⟨y4, e4⟩ : ∃ y_, xs[4]? = some y_ := ⟨_, List.getElem?_eq_getElem (by rw [hxl]; decide)⟩
  rw [e4] at h4
  have q4 : DataW.trod enc Try.prog w base spare held n 22 ((cs.drop 5).take 1) = some y4 := (congrArg (fun z => DataW.trod enc Try.prog w base spare held n 22 ((cs.drop 5).take z)) (show 1 = Try.prog.cellsOf 22 from by kernel_rfl)).trans h4
  obtain ⟨x4, k4_, g4⟩ := (opens_int Try.underlying22) _ _ _ q4
  have h5 := hf 5 _ rfl
  obtain ⟨y5, e5⟩ : ∃ y_, xs[5]? = some y_ := ⟨_, List.getElem?_eq_getElem (by rw [hxl]; decide)⟩
  rw [e5] at h5
  have q5 : DataW.trod enc Try.prog w base spare held n 3 ((cs.drop 6).take 1) = some y5 := (congrArg (fun z => DataW.trod enc Try.prog w base spare held n 3 ((cs.drop 6).take z)) (show 1 = Try.prog.cellsOf 3 from by kernel_rfl)).trans h5
  obtain ⟨x5, k5_, g5⟩ := (opens_int Try.underlying3) _ _ _ q5
  have h6 := hf 6 _ rfl
  obtain ⟨y6, e6⟩ : ∃ y_, xs[6]? = some y_ := ⟨_, List.getElem?_eq_getElem (by rw [hxl]; decide)⟩
  rw [e6] at h6
  have q6 : DataW.trod enc Try.prog w base spare held n 22 ((cs.drop 7).take 1) = some y6 := (congrArg (fun z => DataW.trod enc Try.prog w base spare held n 22 ((cs.drop 7).take z)) (show 1 = Try.prog.cellsOf 22 from by kernel_rfl)).trans h6
  obtain ⟨x6, k6_, g6⟩ := (opens_int Try.underlying22) _ _ _ q6
  have s0 : cs.drop 0 = (cs.drop 0).take 2 ++ cs.drop 2 := by have e_ := (List.take_append_drop 2 (cs.drop 0)).symm; rwa [List.drop_drop] at e_
  have s1 : cs.drop 2 = (cs.drop 2).take 1 ++ cs.drop 3 := by have e_ := (List.take_append_drop 1 (cs.drop 2)).symm; rwa [List.drop_drop] at e_
  have s2 : cs.drop 3 = (cs.drop 3).take 1 ++ cs.drop 4 := by have e_ := (List.take_append_drop 1 (cs.drop 3)).symm; rwa [List.drop_drop] at e_
  have s3 : cs.drop 4 = (cs.drop 4).take 1 ++ cs.drop 5 := by have e_ := (List.take_append_drop 1 (cs.drop 4)).symm; rwa [List.drop_drop] at e_
  have s4 : cs.drop 5 = (cs.drop 5).take 1 ++ cs.drop 6 := by have e_ := (List.take_append_drop 1 (cs.drop 5)).symm; rwa [List.drop_drop] at e_
  have s5 : cs.drop 6 = (cs.drop 6).take 1 ++ cs.drop 7 := by have e_ := (List.take_append_drop 1 (cs.drop 6)).symm; rwa [List.drop_drop] at e_
  have s6 : cs.drop 7 = (cs.drop 7).take 1 := (List.take_of_length_le (by rw [List.length_drop, hcs]; decide)).symm
  exact ⟨⟨x0, x1, x2, x3, x4, x5, x6⟩, ⟨(cs.drop 0).take 2, cs.drop 2, (show cs = _ from s0), k0_, ⟨(cs.drop 2).take 1, cs.drop 3, s1, k1_, ⟨(cs.drop 3).take 1, cs.drop 4, s2, k2_, ⟨(cs.drop 4).take 1, cs.drop 5, s3, k3_, ⟨(cs.drop 5).take 1, cs.drop 6, s4, k4_, ⟨(cs.drop 6).take 1, cs.drop 7, s5, k5_, (by rw [s6]; exact k6_)⟩⟩⟩⟩⟩⟩, g0, g1, g2, g3, g4, g5, g6⟩
end Go.Proofs.Ytgelpccjdndfoaa.P

namespace Go.Proofs.Ytgelpccjdndfoaa.P
open Go.RowKit Go.Proofs.YtgelpccjdndfoaaW.PrintWords Go.Proofs.YtgelpccjdndfoaaW.PrintLast Go.Proofs.YtgelpccjdndfoaaW.PrintMore
attribute [local go_sem] max2_int min2_int max_two min_two max_three min_three max_four min_four
set_option linter.unusedVariables false
set_option linter.unusedSimpArgs false

/-! ### dragomanref03_Copy: function 12 -/
def q19z.f (a0_0 : Int) (a0_1 : Int) (l0_2 : List Int) (l0_3 : List Int) (a0_4 : Int) (a0_5 : Int) (a0_6 : Int) (a0_7 : Int) : Option (Int × Int × List Int × List Int × Int × Int × Int × Int) := (some (([] : List Int) : List Int)).bind fun y3 => (if y3.length + l0_2.length < 35184372088832 then ((some (([] : List Int) : List Int)).bind fun y9 => (if y9.length + l0_3.length < 35184372088832 then (some (a0_0, a0_1, (y3 ++ l0_2), (y9 ++ l0_3), a0_4, a0_5, a0_6, a0_7)) else (none))) else (none))
set_option maxHeartbeats 8000000 in
set_option maxRecDepth 100000 in
theorem q19z.calls (a0_0 : Int) (a0_1 : Int) (A0_2 : Option Addr) (c0_2 : Nat) (l0_2 : List Int) (A0_3 : Option Addr) (c0_3 : Nat) (l0_3 : List Int) (a0_4 : Int) (a0_5 : Int) (a0_6 : Int) (a0_7 : Int) (r1 : Int) (r2 : Int) (r3 : List Int) (r4 : List Int) (r5 : Int) (r6 : Int) (r7 : Int) (r8 : Int) (w : World) (hr0_2 : Kd.C (Kd.int .u32) w A0_2 l0_2.length l0_2) (hc0_2 : l0_2.length ≤ c0_2) (hr0_3 : Kd.C (Kd.int .u32) w A0_3 l0_3.length l0_3) (hc0_3 : l0_3.length ≤ c0_3) (h : q19z.f a0_0 a0_1 l0_2 l0_3 a0_4 a0_5 a0_6 a0_7 = some (r1, r2, r3, r4, r5, r6, r7, r8)) :
  Calls Try.prog 12 #[.agg #[.int .u32 a0_0, .int .i64 a0_1, .slice A0_2 l0_2.length c0_2, .slice A0_3 l0_3.length c0_3, .int .u32 a0_4, .int .u32 a0_5, .int .i64 a0_6, .int .u32 a0_7]] w fun e w' => ∃ v2_ v3_ : Value, e = .returned (.agg #[.int .u32 r1, .int .i64 r2, v2_, v3_, .int .u32 r5, .int .u32 r6, .int .i64 r7, .int .u32 r8]) ∧ Kd.R (Kd.int .u32) 22 w' w.heap.size (fun k_ => some k_ ≠ (v3_ : Value).ownBlock) v2_ r3 ∧ Kd.R (Kd.int .u32) 22 w' w.heap.size (fun k_ => some k_ ≠ (v2_ : Value).ownBlock) v3_ r4 ∧ Below w.heap.size w w' := by
 have hu30 := Try.underlying30
 have HR0_2 := Aside0.mk hr0_2
 have HC0_2 := Aside0.mk hc0_2
 clear hr0_2 hc0_2
 have HR0_3 := Aside0.mk hr0_3
 have HC0_3 := Aside0.mk hc0_3
 clear hr0_3 hc0_3
 have HB := Aside0.mk (Below.refl w.heap.size w)
 have H : ((some (([] : List Int) : List Int)).bind fun y3 => (if y3.length + l0_2.length < 35184372088832 then ((some (([] : List Int) : List Int)).bind fun y9 => (if y9.length + l0_3.length < 35184372088832 then (some (a0_0, a0_1, (y3 ++ l0_2), (y9 ++ l0_3), a0_4, a0_5, a0_6, a0_7)) else (none))) else (none))) = some (r1, r2, r3, r4, r5, r6, r7, r8) := h
 clear h
 obtain ⟨y3, hy3⟩ : ∃ y_ : List Int, y_ = (([] : List Int)) := ⟨_, rfl⟩
 replace H : (if y3.length + l0_2.length < 35184372088832 then ((some (([] : List Int) : List Int)).bind fun y9 => (if y9.length + l0_3.length < 35184372088832 then (some (a0_0, a0_1, (y3 ++ l0_2), (y9 ++ l0_3), a0_4, a0_5, a0_6, a0_7)) else (none))) else (none)) = some (r1, r2, r3, r4, r5, r6, r7, r8) := by first | (rw [hy3]; with_reducible exact H) | (have H2_ := (Option.bind_some _ _).symm.trans H; rw [hy3]; with_reducible exact H2_) | (have H2_ := (Option.bind_some _ _).symm.trans H; with_reducible exact H2_) | with_reducible exact H | (rw [hy3]; exact H) | exact H
 have Ny3 := Aside0.mk hy3
 clear hy3
 by_cases c2 : y3.length + l0_2.length < 35184372088832
 ·
  rw [if_pos c2] at H
  have LMc2 := Aside0.mk c2
  clear c2
  obtain ⟨y6, hy6⟩ : ∃ y_ : List Int, y_ = (y3 ++ l0_2) := ⟨_, rfl⟩
  replace H : ((some (([] : List Int) : List Int)).bind fun y9 => (if y9.length + l0_3.length < 35184372088832 then (some (a0_0, a0_1, y6, (y9 ++ l0_3), a0_4, a0_5, a0_6, a0_7)) else (none))) = some (r1, r2, r3, r4, r5, r6, r7, r8) := by first | (rw [hy6]; with_reducible exact H) | (have H2_ := (Option.bind_some _ _).symm.trans H; rw [hy6]; with_reducible exact H2_) | (have H2_ := (Option.bind_some _ _).symm.trans H; with_reducible exact H2_) | with_reducible exact H | (rw [hy6]; exact H) | exact H
  have Ny6 := Aside0.mk hy6
  clear hy6
  obtain ⟨y9, hy9⟩ : ∃ y_ : List Int, y_ = (([] : List Int)) := ⟨_, rfl⟩
  replace H : (if y9.length + l0_3.length < 35184372088832 then (some (a0_0, a0_1, y6, (y9 ++ l0_3), a0_4, a0_5, a0_6, a0_7)) else (none)) = some (r1, r2, r3, r4, r5, r6, r7, r8) := by first | (rw [hy9]; with_reducible exact H) | (have H2_ := (Option.bind_some _ _).symm.trans H; rw [hy9]; with_reducible exact H2_) | (have H2_ := (Option.bind_some _ _).symm.trans H; with_reducible exact H2_) | with_reducible exact H | (rw [hy9]; exact H) | exact H
  have Ny9 := Aside0.mk hy9
  clear hy9
  by_cases c3 : y9.length + l0_3.length < 35184372088832
  ·
   rw [if_pos c3] at H
   have LMc3 := Aside0.mk c3
   clear c3
   obtain ⟨y12, hy12⟩ : ∃ y_ : List Int, y_ = (y9 ++ l0_3) := ⟨_, rfl⟩
   replace H : (some (a0_0, a0_1, y6, y12, a0_4, a0_5, a0_6, a0_7)) = some (r1, r2, r3, r4, r5, r6, r7, r8) := by first | (rw [hy12]; with_reducible exact H) | (have H2_ := (Option.bind_some _ _).symm.trans H; rw [hy12]; with_reducible exact H2_) | (have H2_ := (Option.bind_some _ _).symm.trans H; with_reducible exact H2_) | with_reducible exact H | (rw [hy12]; exact H) | exact H
   have Ny12 := Aside0.mk hy12
   clear hy12
   simp only [Option.some.injEq, Prod.mk.injEq] at H
   obtain ⟨rfl, rfl, rfl, rfl, rfl, rfl, rfl, rfl⟩ := H
   go_enter Try.func12, Try.ntmps12
   go_wp2_with (first | ((with_reducible refine gate_dst (N := 1) rfl ?_); refine box_event ?hg (N := 1) ?hd (cs := #[.int .u32 a0_0, .int .i64 a0_1, .slice A0_2 l0_2.length c0_2, .slice A0_3 l0_3.length c0_3, .int .u32 a0_4, .int .u32 a0_5, .int .i64 a0_6, .int .u32 a0_7]) (t := 30) ?hr ?_; (case hd => rfl); (case hg => rfl); (case hr => first | (go_simp; done) | (go_simp; rfl)); intro gb1 hg w4 hbox hb; have BK1 := Aside0.mk (hbox); have GW1 := Aside0.mk ((by rw [hg]; exact (below_size (hbW HB)) : w.heap.size ≤ gb1)); have GE1 := Aside0.mk ((by rw [hg]; exact (below_size (hbW HB)) : w.heap.size ≤ gb1)); replace HB := hbS HB hb; clear hb hbox hg) | ((with_reducible refine gate_dst (N := 2) rfl ?_); refine box_event ?hg (N := 2) ?hd (cs := #[.int .u32 0, .int .i64 0, .slice none 0 0, .slice none 0 0, .int .u32 0, .int .u32 0, .int .i64 0, .int .u32 0]) (t := 30) ?hr ?_; (case hd => rfl); (case hg => rfl); (case hr => first | (go_simp; done) | (go_simp; rfl)); intro gb2 hg w5 hbox hb; have BK2 := Aside0.mk (hbox); have GW2 := Aside0.mk ((by rw [hg]; exact (below_size (hbW HB)) : w.heap.size ≤ gb2)); have GE2 := Aside0.mk ((by rw [hg]; exact (below_size (hbW HB)) : w.heap.size ≤ gb2)); have NB1_2 := Aside0.mk ((by rw [hg]; exact Nat.ne_of_lt (blk_lt (bkW BK1)) : gb1 ≠ gb2)); have NB2_1 := Aside0.mk ((by rw [hg]; exact Nat.ne_of_gt (blk_lt (bkW BK1)) : gb2 ≠ gb1)); replace BK1 := bkB BK1 hb; replace HB := hbS HB hb; clear hb hbox hg) | ((with_reducible refine gate_dst (N := 3) rfl ?_); refine Kd.R_lit (Kd.int .u32) _ 22 ?hg (N := 3) ?hd (xs := ([] : List Int)) (inner := []) (ok := fun _ => True) (okp := fun _ => True) ?hr ?hp (fun _ hk => hk) trivial (Below.refl _ _) (Nat.le_refl _) (by simp) ?_; (case hd => rfl); (case hg => rfl); (case hr => first | (go_simp; done) | (go_simp; rfl)); (case hp => exact (Reps.none _ _)); intro v4 w6 ho7 hb hg_ hnew_; clear hg_ hnew_; (first | rw [← Ny3.out] at ho7 | (simp only [Int.reduceToNat] at ho7; rw [← Ny3.out] at ho7)); have HO5 := Aside0.mk (Kd.R_lower ho7 (below_size (hbW HB))); replace BK1 := bkB BK1 hb; replace BK2 := bkB BK2 hb; replace HB := hbS HB hb; clear hb ho7; have hnb8 := NB1_2.out; have hnc8 := NB2_1.out; obtain ⟨hcz9_0, hcz9_1, hcz9_2, hcz9_3, hcz9_4, hcz9_5, hcz9_6, hcz9_7, hfz9_0, hfz9_1, hfz9_2, hfz9_3, hfz9_4, hfz9_5, hfz9_6, hfz9_7⟩ := bc8 BK1) | ((with_reducible refine gate_builtin (b := .append) (xs := #[.tmp 3, .tmp 5]) rfl ?_); at_builtin; refine Kd.R_append_rows (Kd.int .u32) (w0 := w) w.heap.size rfl (.tmp 3) (.tmp 5) 23 22 (.int .u32 0) 4 rfl Try.underlying23 info22 rfl (by decide) (by omega) v4 y3 l0_2 _ _ _ (fun _ => True) (fun _ => False) rfl rfl ?aO ?aR (fun _ _ h => h) (fun _ h => h.elim) ?aF ?aB ?aS ?aL ?_; (case aR => repeat (first | exact (Kd.C_below HR0_2.out HB.out) | (with_reducible refine Kd.C_alloc ?_ _) | (with_reducible refine Kd.C_drewN ?_ _) | (with_reducible refine Kd.C_drew ?_))); (case aB => exact (hbW HB)); (case aF => exact (fun _ _ => trivial)); (case aO => exact (rW HO5)); (case aS => exact (below_size (hbW HB))); (case aL => have := LMc2.out; omega); intro v7 w10 ho hb hg hat; rw [← Ny6.out] at ho; have n0_ := Aside0.mk (blk_grown (g := gb1) (o := .cells #[.int .u32 a0_0, .int .i64 a0_1, .slice A0_2 l0_2.length c0_2, .slice A0_3 l0_3.length c0_3, .int .u32 a0_4, .int .u32 a0_5, .int .i64 a0_6, .int .u32 a0_7] 30 (0, 0)) (bkW BK1) hg (Kd.R_ne HO5.out BK1.out (by decide))); have n1_ := Aside0.mk (blk_grown (g := gb2) (o := .cells #[.int .u32 0, .int .i64 0, .slice none 0 0, .slice none 0 0, .int .u32 0, .int .u32 0, .int .i64 0, .int .u32 0] 30 (0, 0)) (bkW BK2) hg (Kd.R_ne HO5.out BK2.out (by decide))); have n2_ := Aside0.mk (hb); have n3_ := Aside0.mk (ho); clear BK1; clear BK2; clear HB; clear HO5; have BK1 := n0_; have BK2 := n1_; have HB := n2_; have HO8 := n3_; clear n0_ n1_ n2_ n3_; clear ho hb hg hat; obtain ⟨Ao11, co11, eo11⟩ := Kd.R_slice HO8.out; subst eo11; obtain ⟨hcz12_0, hcz12_1, hcz12_2, hcz12_3, hcz12_4, hcz12_5, hcz12_6, hcz12_7, hfz12_0, hfz12_1, hfz12_2, hfz12_3, hfz12_4, hfz12_5, hfz12_6, hfz12_7⟩ := bc8 BK1) | ((with_reducible refine gate_dst (N := 8) rfl ?_); refine Kd.R_lit (Kd.int .u32) _ 22 ?hg (N := 8) ?hd (xs := ([] : List Int)) (inner := []) (ok := fun _ => True) (okp := fun _ => True) ?hr ?hp (fun _ hk => hk) trivial (Below.refl _ _) (Nat.le_refl _) (by simp) ?_; (case hd => rfl); (case hg => rfl); (case hr => first | (go_simp; done) | (go_simp; rfl)); (case hp => exact (Reps.none _ _)); intro v10 w13 ho14 hb hg_ hnew_; clear hg_ hnew_; (first | rw [← Ny9.out] at ho14 | (simp only [Int.reduceToNat] at ho14; rw [← Ny9.out] at ho14)); have HO11 := Aside0.mk (Kd.R_lower (Kd.R_new' ho14 (Kd.R_lt (rW HO8))) (below_size (hbW HB))); replace HO8 := Aside0.mk (Kd.R_elder' (rW HO8) (Kd.R_base ho14) hb); replace BK1 := Aside0.mk (blk_below (g := gb1) (o := .cells #[.int .u32 a0_0, .int .i64 a0_1, .slice Ao11 y6.length co11, .slice A0_3 l0_3.length c0_3, .int .u32 a0_4, .int .u32 a0_5, .int .i64 a0_6, .int .u32 a0_7] 30 (0, 0)) (by (with_reducible repeat (first | refine blk_drewN ?_ _ | refine blk_drew ?_ | refine blk_alloc ?_ _)); refine blk_put (cs := #[.int .u32 a0_0, .int .i64 a0_1, .slice A0_2 l0_2.length c0_2, .slice A0_3 l0_3.length c0_3, .int .u32 a0_4, .int .u32 a0_5, .int .i64 a0_6, .int .u32 a0_7]) ?_ 2 _ rfl; (with_reducible repeat (first | refine blk_drewN ?_ _ | refine blk_drew ?_ | refine blk_alloc ?_ _)); exact BK1.out) hb); replace BK2 := bvB BK2 hb; replace HB := hbS HB hb; clear hb ho14; obtain ⟨hcz15_0, hcz15_1, hcz15_2, hcz15_3, hcz15_4, hcz15_5, hcz15_6, hcz15_7, hfz15_0, hfz15_1, hfz15_2, hfz15_3, hfz15_4, hfz15_5, hfz15_6, hfz15_7⟩ := bc8 BK1) | ((with_reducible refine gate_builtin (b := .append) (xs := #[.tmp 8, .tmp 10]) rfl ?_); at_builtin; refine Kd.R_append_rows (Kd.int .u32) (w0 := w) w.heap.size rfl (.tmp 8) (.tmp 10) 23 22 (.int .u32 0) 4 rfl Try.underlying23 info22 rfl (by decide) (by omega) v10 y9 l0_3 _ _ _ (fun k_ => some k_ ≠ (.slice Ao11 y6.length co11 : Value).ownBlock) (fun _ => False) rfl rfl ?aO ?aR (fun _ _ h => h) (fun _ h => h.elim) ?aF ?aB ?aS ?aL ?_; (case aR => repeat (first | exact (Kd.C_below HR0_3.out HB.out) | (with_reducible refine Kd.C_alloc ?_ _) | (with_reducible refine Kd.C_drewN ?_ _) | (with_reducible refine Kd.C_drew ?_))); (case aB => exact (hbW HB)); (case aF => exact (fun k_ hk => Kd.fresh' (Kd.R_lt (rW HO8)) k_ hk)); (case aO => exact (by (with_reducible repeat (first | apply Kd.R_alloc | apply Kd.R_drewN | apply Kd.R_drew)); exact Kd.R_mono HO11.out (fun _ hk => hk.2))); (case aS => exact (below_size (hbW HB))); (case aL => have := LMc3.out; omega); intro v13 w16 ho hb hg hat; rw [← Ny12.out] at ho; have n0_ := Aside0.mk (blk_grown (g := gb1) (o := .cells #[.int .u32 a0_0, .int .i64 a0_1, .slice Ao11 y6.length co11, .slice A0_3 l0_3.length c0_3, .int .u32 a0_4, .int .u32 a0_5, .int .i64 a0_6, .int .u32 a0_7] 30 (0, 0)) (bkW BK1) hg (Kd.R_ne HO11.out BK1.out (by decide))); have n1_ := Aside0.mk (blk_grown (g := gb2) (o := .cells #[.int .u32 0, .int .i64 0, .slice none 0 0, .slice none 0 0, .int .u32 0, .int .u32 0, .int .i64 0, .int .u32 0] 30 (0, 0)) (bkW BK2) hg (Kd.R_ne HO11.out BK2.out (by decide))); have n2_ := Aside0.mk (Kd.R_after (ok := (fun _ => True)) (rW HO8) hg hat); have n3_ := Aside0.mk (hb); have n4_ := Aside0.mk (ho); clear BK1; clear BK2; clear HO8; clear HB; clear HO11; have BK1 := n0_; have BK2 := n1_; have HO8 := n2_; have HB := n3_; have HO14 := n4_; clear n0_ n1_ n2_ n3_ n4_; clear ho hb hg hat; obtain ⟨Ao17, co17, eo17⟩ := Kd.R_slice HO14.out; subst eo17; obtain ⟨hcz18_0, hcz18_1, hcz18_2, hcz18_3, hcz18_4, hcz18_5, hcz18_6, hcz18_7, hfz18_0, hfz18_1, hfz18_2, hfz18_3, hfz18_4, hfz18_5, hfz18_6, hfz18_7⟩ := bc8 BK1; obtain ⟨hcz19_0, hcz19_1, hcz19_2, hcz19_3, hcz19_4, hcz19_5, hcz19_6, hcz19_7, hfz19_0, hfz19_1, hfz19_2, hfz19_3, hfz19_4, hfz19_5, hfz19_6, hfz19_7⟩ := bc8 BK2))
   refine bodyPost_ret (results_cell_row rfl _ _ gb2 30 #[.int .u32 a0_0, .int .i64 a0_1, .slice Ao11 y6.length co11, .slice Ao17 y12.length co17, .int .u32 a0_4, .int .u32 a0_5, .int .i64 a0_6, .int .u32 a0_7] (0, 0) _ rfl (bp8 BK2) Try.underlying30 rfl (by kernel_rfl)) rfl ?_
   exact ⟨_, _, by first | rfl | (simp [errW_none, errW_some] <;> rfl) | (simp [*, errW_none, errW_some] <;> rfl), by (with_reducible repeat (first | apply Kd.R_alloc | apply Kd.R_drewN | apply Kd.R_drew)); exact Kd.R_mono (Kd.R_far (p := ⟨gb2, 7, none⟩) (Kd.R_far (p := ⟨gb2, 6, none⟩) (Kd.R_far (p := ⟨gb2, 5, none⟩) (Kd.R_far (p := ⟨gb2, 4, none⟩) (Kd.R_far (p := ⟨gb2, 3, none⟩) (Kd.R_far (p := ⟨gb2, 2, none⟩) (Kd.R_far (p := ⟨gb2, 1, none⟩) (Kd.R_far (p := ⟨gb2, 0, none⟩) (Kd.R_far (p := ⟨gb1, 3, none⟩) (Kd.R_types (Kd.R_types HO8.out BK1.out (by decide)) BK2.out (by decide)) (fun _ hk => hk.1.2) (.slice Ao17 y12.length co17)) (fun _ hk => hk.2) (.int .u32 a0_0)) (fun _ hk => hk.2) (.int .i64 a0_1)) (fun _ hk => hk.2) (.slice Ao11 y6.length co11)) (fun _ hk => hk.2) (.slice Ao17 y12.length co17)) (fun _ hk => hk.2) (.int .u32 a0_4)) (fun _ hk => hk.2) (.int .u32 a0_5)) (fun _ hk => hk.2) (.int .i64 a0_6)) (fun _ hk => hk.2) (.int .u32 a0_7)) (fun _ hk => hk.1.1.2), by (with_reducible repeat (first | apply Kd.R_alloc | apply Kd.R_drewN | apply Kd.R_drew)); exact Kd.R_mono (Kd.R_far (p := ⟨gb2, 7, none⟩) (Kd.R_far (p := ⟨gb2, 6, none⟩) (Kd.R_far (p := ⟨gb2, 5, none⟩) (Kd.R_far (p := ⟨gb2, 4, none⟩) (Kd.R_far (p := ⟨gb2, 3, none⟩) (Kd.R_far (p := ⟨gb2, 2, none⟩) (Kd.R_far (p := ⟨gb2, 1, none⟩) (Kd.R_far (p := ⟨gb2, 0, none⟩) (Kd.R_far (p := ⟨gb1, 3, none⟩) (Kd.R_types (Kd.R_types HO14.out BK1.out (by decide)) BK2.out (by decide)) (fun _ hk => hk.1.2) (.slice Ao17 y12.length co17)) (fun _ hk => hk.2) (.int .u32 a0_0)) (fun _ hk => hk.2) (.int .i64 a0_1)) (fun _ hk => hk.2) (.slice Ao11 y6.length co11)) (fun _ hk => hk.2) (.slice Ao17 y12.length co17)) (fun _ hk => hk.2) (.int .u32 a0_4)) (fun _ hk => hk.2) (.int .u32 a0_5)) (fun _ hk => hk.2) (.int .i64 a0_6)) (fun _ hk => hk.2) (.int .u32 a0_7)) (fun _ hk => hk.1.1), hbW HB⟩
  ·
   rw [if_neg c3] at H
   exact absurd H (by simp)
 ·
  rw [if_neg c2] at H
  exact absurd H (by simp)

end Go.Proofs.Ytgelpccjdndfoaa.P

namespace Go.Proofs.Ytgelpccjdndfoaa.P
open Go.RowKit Go.Proofs.YtgelpccjdndfoaaW.PrintWords Go.Proofs.YtgelpccjdndfoaaW.PrintLast Go.Proofs.YtgelpccjdndfoaaW.PrintMore
attribute [local go_sem] max2_int min2_int max_two min_two max_three min_three max_four min_four
set_option linter.unusedVariables false
set_option linter.unusedSimpArgs false

/-! ### dragomanref11_CommsRight: function 34 -/
def q20z.l0 : Nat → List (S53) → Int → Int → Option (Bool)
 | 0, _, _, _ => none
 | k + 1, x8, x9, x10 => if x10 < x9 then (if 0 ≤ x10 then (if x10 < (x8.length : Int) then (if (((rd_T53 x8 x10).f1).length : Int) > 64 then (some false) else (q20z.l0 k x8 x9 (wrap64 (x10 + 1)))) else (none)) else (none)) else (some true)
def q20z.f (k : Nat) (l0 : List (S53)) : Option (Bool) := if (l0.length : Int) > 64 then (some false) else (q20z.l0 k l0 (l0.length : Int) 0)
theorem q20z.mono_l : ∀ k, (∀ y0 y1 y2, LeO (q20z.l0 k y0 y1 y2) (q20z.l0 (k + 1) y0 y1 y2))
 | 0 => fun _ _ _ r h => by simp [q20z.l0] at h
 | k + 1 => by
  have ih0 := q20z.mono_l k
  ·
   intro y0 y1 y2
   unfold q20z.l0
   repeat' first
   | (with_reducible exact ih0 _ _ _)
   | (with_reducible exact LeO.refl _)
   | (with_reducible exact LeO.none _)
   | (with_reducible refine LeO.ite ?_ ?_)
   | (with_reducible refine LeO.bind ?_ (fun _ => ?_))
   | exact ih0 _ _ _
   | exact LeO.none _
   | refine LeO.ite ?_ ?_
   | refine LeO.bind ?_ (fun _ => ?_)
theorem q20z.mono : ∀ a0 k, LeO (q20z.f k a0) (q20z.f (k + 1) a0) := by
 intro a0 k
 have ih0 := q20z.mono_l k
 unfold q20z.f
 repeat' first
   | (with_reducible exact ih0 _ _ _)
   | (with_reducible exact LeO.refl _)
   | (with_reducible exact LeO.none _)
   | (with_reducible refine LeO.ite ?_ ?_)
   | (with_reducible refine LeO.bind ?_ (fun _ => ?_))
   | exact ih0 _ _ _
   | exact LeO.none _
   | refine LeO.ite ?_ ?_
   | refine LeO.bind ?_ (fun _ => ?_)
set_option maxHeartbeats 8000000 in
set_option maxRecDepth 100000 in
theorem q20z.calls (k : Nat) (A0 : Option Addr) (c0 : Nat) (l0 : List (S53)) (r : Bool) (w : World) (hr0 : Kd.C k53 w A0 l0.length l0) (hc0 : l0.length ≤ c0) (h : q20z.f k l0 = some r) :
  Calls Try.prog 34 #[.slice A0 l0.length c0] w fun e w' => e = .returned (.bool r) ∧ Below w.heap.size w w' := by
 have hu53 := Try.underlying53
 have HR0 := Aside0.mk hr0
 have HC0 := Aside0.mk hc0
 clear hr0 hc0
 have HB := Aside0.mk (Below.refl w.heap.size w)
 have H : (if (l0.length : Int) > 64 then (some false) else (q20z.l0 k l0 (l0.length : Int) 0)) = some r := h
 clear h
 by_cases c2 : (l0.length : Int) > 64
 ·
  rw [if_pos c2] at H
  have c2b0 : decide (64 < (l0.length : Int)) = true := decide_eq_true c2
  have c2b1 : decide (64 < l0.length) = true := decide_eq_true (by omega)
  clear c2
  obtain rfl := Option.some.inj H
  go_enter Try.func34, Try.ntmps34
  go_wp2
  go_ret
  exact ⟨by first | rfl | (simp [errW_none, errW_some] <;> rfl) | (simp [*, errW_none, errW_some] <;> rfl), hbW HB⟩
 ·
  rw [if_neg c2] at H
  have c2b0 : decide (64 < (l0.length : Int)) = false := decide_eq_false c2
  have c2b1 : decide (64 < l0.length) = false := decide_eq_false (by omega)
  clear c2
  have H' := Aside0.mk H
  clear H
  go_enter Try.func34, Try.ntmps34
  go_wp2
  go_loopg [10] k (fun kq v10 w' => ∃ (x10_1 : Int), v10 = .int .i64 x10_1 ∧ Aside0 (q20z.l0 kq l0 (l0.length : Int) x10_1 = some r) ∧ Aside0 (kq ≤ k) ∧ Aside0 (Below w.heap.size w w'))
  case atStart => exact ⟨(0), (by first | rfl | (simp; done) | (simp [*]; done)), H', ⟨Nat.le_refl _⟩, ⟨hbW HB⟩⟩
  case round =>
   clear H'
   try clear c2
   try clear c2b0
   try clear c2b1
   try clear p2
   obtain ⟨x10_1, rfl, HA, HK1, HB⟩ := hrel
   cases gk with
   | zero => exact absurd HA.out (by simp [q20z.l0])
   | succ k1 =>
    have H := HA.out
    clear HA
    simp only [q20z.l0] at H
    by_cases c3 : x10_1 < (l0.length : Int)
    ·
     rw [if_pos c3] at H
     have c3b0 : decide (x10_1 < (l0.length : Int)) = true := decide_eq_true c3
     clear c3
     by_cases c4 : 0 ≤ x10_1
     ·
      rw [if_pos c4] at H
      have c4b0 : decide (0 ≤ x10_1) = true := decide_eq_true c4
      clear c4
      by_cases c5 : x10_1 < (l0.length : Int)
      ·
       rw [if_pos c5] at H
       have c5b0 : decide (x10_1 < (l0.length : Int)) = true := decide_eq_true c5
       clear c5
       by_cases c6 : (((rd_T53 l0 x10_1).f1).length : Int) > 64
       ·
        rw [if_pos c6] at H
        have c6b0 : decide (64 < (((rd_T53 l0 x10_1).f1).length : Int)) = true := decide_eq_true c6
        have c6b1 : decide (64 < ((rd_T53 l0 x10_1).f1).length) = true := decide_eq_true (by omega)
        clear c6
        obtain rfl := Option.some.inj H
        have p1 : 0 ≤ (x10_1 : Int) := of_decide_eq_true (by first | (with_reducible assumption) | assumption)
        have q1 : x10_1 < (l0.length : Int) := of_decide_eq_true (by first | (with_reducible assumption) | assumption)
        obtain ⟨ad1, A1_1, c1_1, e1, hx1_0, hx1_1, hl1_1, hi1_1⟩ := at_T53 HR0.out x10_1 p1 q1
        cases e1
        replace hx1_0 := (HB.out.cell (World.block_lt_of_cell? w _ hx1_0)).trans hx1_0
        replace hx1_1 := (HB.out.cell (World.block_lt_of_cell? w _ hx1_1)).trans hx1_1
        have HR1_1 := Aside0.mk hi1_1
        have HC1_1 := Aside0.mk hl1_1
        clear hi1_1 hl1_1
        replace p1 := eq_true p1
        replace q1 := eq_true q1
        go_wp2_with (first | ((with_reducible refine gate_dst (N := 4) rfl ?_); refine box_event ?hg (N := 4) ?hd (cs := #[.bool false, .slice none 0 0]) (t := 53) ?hr ?_; (case hd => rfl); (case hg => rfl); (case hr => first | (go_simp; done) | (go_simp; rfl)); intro gb2 hg w7 hbox hb; have BK2 := Aside0.mk (hbox); have GW2 := Aside0.mk ((by rw [hg]; exact (below_size (hbW HB)) : w.heap.size ≤ gb2)); have GE2 := Aside0.mk ((by rw [hg]; exact (below_size (hbW HB)) : w.heap.size ≤ gb2)); replace HB := hbS HB hb; clear hb hbox hg; obtain ⟨hcz8_0, hcz8_1, hfz8_0, hfz8_1⟩ := bc2 BK2))
        go_ret
        exact ⟨by first | rfl | (simp [errW_none, errW_some] <;> rfl) | (simp [*, errW_none, errW_some] <;> rfl), hbW HB⟩
       ·
        rw [if_neg c6] at H
        have c6b0 : decide (64 < (((rd_T53 l0 x10_1).f1).length : Int)) = false := decide_eq_false c6
        have c6b1 : decide (64 < ((rd_T53 l0 x10_1).f1).length) = false := decide_eq_false (by omega)
        clear c6
        have H' := Aside0.mk H
        clear H
        have p1 : 0 ≤ (x10_1 : Int) := of_decide_eq_true (by first | (with_reducible assumption) | assumption)
        have q1 : x10_1 < (l0.length : Int) := of_decide_eq_true (by first | (with_reducible assumption) | assumption)
        obtain ⟨ad1, A1_1, c1_1, e1, hx1_0, hx1_1, hl1_1, hi1_1⟩ := at_T53 HR0.out x10_1 p1 q1
        cases e1
        replace hx1_0 := (HB.out.cell (World.block_lt_of_cell? w _ hx1_0)).trans hx1_0
        replace hx1_1 := (HB.out.cell (World.block_lt_of_cell? w _ hx1_1)).trans hx1_1
        have HR1_1 := Aside0.mk hi1_1
        have HC1_1 := Aside0.mk hl1_1
        clear hi1_1 hl1_1
        replace p1 := eq_true p1
        replace q1 := eq_true q1
        go_wp2_with (first | ((with_reducible refine gate_dst (N := 4) rfl ?_); refine box_event ?hg (N := 4) ?hd (cs := #[.bool false, .slice none 0 0]) (t := 53) ?hr ?_; (case hd => rfl); (case hg => rfl); (case hr => first | (go_simp; done) | (go_simp; rfl)); intro gb2 hg w9 hbox hb; have BK2 := Aside0.mk (hbox); have GW2 := Aside0.mk ((by rw [hg]; exact (below_size (hbW HB)) : w.heap.size ≤ gb2)); have GE2 := Aside0.mk ((by rw [hg]; exact (below_size (hbW HB)) : w.heap.size ≤ gb2)); replace HB := hbS HB hb; clear hb hbox hg; obtain ⟨hcz10_0, hcz10_1, hfz10_0, hfz10_1⟩ := bc2 BK2))
        go_roundg k1
        case measure => have := HK1.out; omega
        case rel => exact ⟨(wrap64 (x10_1 + 1)), (by first | rfl | (simp; done) | (simp [*]; done)), H', ⟨by have := HK1.out; omega⟩, ⟨hbW HB⟩⟩
      ·
       rw [if_neg c5] at H
       exact absurd H (by simp)
     ·
      rw [if_neg c4] at H
      exact absurd H (by simp)
    ·
     rw [if_neg c3] at H
     have c3b0 : decide (x10_1 < (l0.length : Int)) = false := decide_eq_false c3
     clear c3
     obtain rfl := Option.some.inj H
     go_wp2
     go_ret
     exact ⟨by first | rfl | (simp [errW_none, errW_some] <;> rfl) | (simp [*, errW_none, errW_some] <;> rfl), hbW HB⟩

end Go.Proofs.Ytgelpccjdndfoaa.P
