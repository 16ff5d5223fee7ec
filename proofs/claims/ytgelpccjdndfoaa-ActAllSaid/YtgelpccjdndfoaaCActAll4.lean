/- Part of the proof of the law ActAll: the functions that it reaches, by contract. -/
import Derived.Test.YtgelpccjdndfoaaCActAll0
import Derived.Test.YtgelpccjdndfoaaCActAll1
import Derived.Test.YtgelpccjdndfoaaCActAll2
import Derived.Test.YtgelpccjdndfoaaCActAll3
namespace Go.Proofs.Ytgelpccjdndfoaa.P
open Go.RowKit Go.Proofs.YtgelpccjdndfoaaW.PrintWords Go.Proofs.YtgelpccjdndfoaaW.PrintLast Go.Proofs.YtgelpccjdndfoaaW.PrintMore
attribute [local go_sem] max2_int min2_int max_two min_two max_three min_three max_four min_four
set_option linter.unusedVariables false
set_option linter.unusedSimpArgs false

/-! ### dragomanlaw12_alive: function 8 -/
def q23z.f (k : Nat)  : Option (Bool) := (q9z.f k 5 0 (([1, 2] : List Int)) ([] : List (S53)) 0 0 (([3] : List Int)) ([] : List Int) 0 0 0 0).bind fun bt7 => ((q9z.f k 6 0 (([5, 3] : List Int)) ([] : List (S53)) 0 0 ([] : List Int) (([4] : List Int)) 0 0 0 0).bind fun bt26 => ((q9z.f k 8 0 ([] : List Int) (([(⟨false, (([(⟨4259840000, 4259905535⟩ : S50)] : List (S50)))⟩ : S53)] : List (S53))) 0 0 ([] : List Int) (([458759, 4259840001] : List Int)) 0 0 0 0).bind fun bt48 => ((q22z.f k bt7.2.2.1 (([1, 2, 3] : List Int))).bind fun t64 => (if t64 = true then ((q22z.f k bt26.2.2.2.1 (([3, 4, 5] : List Int))).bind fun t68 => (if t68 = true then ((q22z.f k bt48.2.2.2.1 (([458759] : List Int))).bind fun t72 => (some t72)) else (some false))) else (some false)))))
theorem q23z.mono : ∀ k, LeO (q23z.f k ) (q23z.f (k + 1) ) := by
 intro  k
 unfold q23z.f
 repeat' first
   | (with_reducible exact q9z.mono _ _ _ _ _ _ _ _ _ _ _ _ _)
   | (with_reducible exact q22z.mono _ _ _)
   | (with_reducible exact LeO.refl _)
   | (with_reducible exact LeO.none _)
   | (with_reducible refine LeO.ite ?_ ?_)
   | (with_reducible refine LeO.bind ?_ (fun _ => ?_))
   | exact q9z.mono _ _ _ _ _ _ _ _ _ _ _ _ _
   | exact q22z.mono _ _ _
   | exact LeO.none _
   | refine LeO.ite ?_ ?_
   | refine LeO.bind ?_ (fun _ => ?_)
set_option maxHeartbeats 8000000 in
set_option maxRecDepth 100000 in
theorem q23z.calls (k : Nat)  (r : Bool) (w : World) (h : q23z.f k  = some r) :
  Calls Try.prog 8 #[] w fun e w' => e = .returned (.bool r) ∧ Below w.heap.size w w' := by
 have hu26 := Try.underlying26
 have hu30 := Try.underlying30
 have hu50 := Try.underlying50
 have hu53 := Try.underlying53
 have HB := Aside0.mk (Below.refl w.heap.size w)
 have H : ((q9z.f k 5 0 (([1, 2] : List Int)) ([] : List (S53)) 0 0 (([3] : List Int)) ([] : List Int) 0 0 0 0).bind fun bt7 => ((q9z.f k 6 0 (([5, 3] : List Int)) ([] : List (S53)) 0 0 ([] : List Int) (([4] : List Int)) 0 0 0 0).bind fun bt26 => ((q9z.f k 8 0 ([] : List Int) (([(⟨false, (([(⟨4259840000, 4259905535⟩ : S50)] : List (S50)))⟩ : S53)] : List (S53))) 0 0 ([] : List Int) (([458759, 4259840001] : List Int)) 0 0 0 0).bind fun bt48 => ((q22z.f k bt7.2.2.1 (([1, 2, 3] : List Int))).bind fun t64 => (if t64 = true then ((q22z.f k bt26.2.2.2.1 (([3, 4, 5] : List Int))).bind fun t68 => (if t68 = true then ((q22z.f k bt48.2.2.2.1 (([458759] : List Int))).bind fun t72 => (some t72)) else (some false))) else (some false)))))) = some r := h
 clear h
 obtain ⟨y1, hy1⟩ : ∃ y_ : List Int, y_ = (([1, 2] : List Int)) := ⟨_, rfl⟩
 replace H : ((q9z.f k 5 0 y1 ([] : List (S53)) 0 0 (([3] : List Int)) ([] : List Int) 0 0 0 0).bind fun bt7 => ((q9z.f k 6 0 (([5, 3] : List Int)) ([] : List (S53)) 0 0 ([] : List Int) (([4] : List Int)) 0 0 0 0).bind fun bt26 => ((q9z.f k 8 0 ([] : List Int) (([(⟨false, (([(⟨4259840000, 4259905535⟩ : S50)] : List (S50)))⟩ : S53)] : List (S53))) 0 0 ([] : List Int) (([458759, 4259840001] : List Int)) 0 0 0 0).bind fun bt48 => ((q22z.f k bt7.2.2.1 (([1, 2, 3] : List Int))).bind fun t64 => (if t64 = true then ((q22z.f k bt26.2.2.2.1 (([3, 4, 5] : List Int))).bind fun t68 => (if t68 = true then ((q22z.f k bt48.2.2.2.1 (([458759] : List Int))).bind fun t72 => (some t72)) else (some false))) else (some false)))))) = some r := by first | (rw [hy1]; with_reducible exact H) | (have H2_ := (Option.bind_some _ _).symm.trans H; rw [hy1]; with_reducible exact H2_) | (have H2_ := (Option.bind_some _ _).symm.trans H; with_reducible exact H2_) | with_reducible exact H | (rw [hy1]; exact H) | exact H
 have Ny1 := Aside0.mk hy1
 clear hy1
 obtain ⟨y4, hy4⟩ : ∃ y_ : List Int, y_ = (([3] : List Int)) := ⟨_, rfl⟩
 replace H : ((q9z.f k 5 0 y1 ([] : List (S53)) 0 0 y4 ([] : List Int) 0 0 0 0).bind fun bt7 => ((q9z.f k 6 0 (([5, 3] : List Int)) ([] : List (S53)) 0 0 ([] : List Int) (([4] : List Int)) 0 0 0 0).bind fun bt26 => ((q9z.f k 8 0 ([] : List Int) (([(⟨false, (([(⟨4259840000, 4259905535⟩ : S50)] : List (S50)))⟩ : S53)] : List (S53))) 0 0 ([] : List Int) (([458759, 4259840001] : List Int)) 0 0 0 0).bind fun bt48 => ((q22z.f k bt7.2.2.1 (([1, 2, 3] : List Int))).bind fun t64 => (if t64 = true then ((q22z.f k bt26.2.2.2.1 (([3, 4, 5] : List Int))).bind fun t68 => (if t68 = true then ((q22z.f k bt48.2.2.2.1 (([458759] : List Int))).bind fun t72 => (some t72)) else (some false))) else (some false)))))) = some r := by first | (rw [hy4]; with_reducible exact H) | (have H2_ := (Option.bind_some _ _).symm.trans H; rw [hy4]; with_reducible exact H2_) | (have H2_ := (Option.bind_some _ _).symm.trans H; with_reducible exact H2_) | with_reducible exact H | (rw [hy4]; exact H) | exact H
 have Ny4 := Aside0.mk hy4
 clear hy4
 replace H := Option.bind_eq_some_iff.mp H
 obtain ⟨⟨t7, t8, t9, t12, t15, t16, t17, t18⟩, A10, H⟩ := H
 replace H : ((q9z.f k 6 0 (([5, 3] : List Int)) ([] : List (S53)) 0 0 ([] : List Int) (([4] : List Int)) 0 0 0 0).bind fun bt26 => ((q9z.f k 8 0 ([] : List Int) (([(⟨false, (([(⟨4259840000, 4259905535⟩ : S50)] : List (S50)))⟩ : S53)] : List (S53))) 0 0 ([] : List Int) (([458759, 4259840001] : List Int)) 0 0 0 0).bind fun bt48 => ((q22z.f k t9 (([1, 2, 3] : List Int))).bind fun t64 => (if t64 = true then ((q22z.f k bt26.2.2.2.1 (([3, 4, 5] : List Int))).bind fun t68 => (if t68 = true then ((q22z.f k bt48.2.2.2.1 (([458759] : List Int))).bind fun t72 => (some t72)) else (some false))) else (some false))))) = some r := H
 have A1 := Aside0.mk A10
 clear A10
 obtain ⟨y20, hy20⟩ : ∃ y_ : List Int, y_ = (([5, 3] : List Int)) := ⟨_, rfl⟩
 replace H : ((q9z.f k 6 0 y20 ([] : List (S53)) 0 0 ([] : List Int) (([4] : List Int)) 0 0 0 0).bind fun bt26 => ((q9z.f k 8 0 ([] : List Int) (([(⟨false, (([(⟨4259840000, 4259905535⟩ : S50)] : List (S50)))⟩ : S53)] : List (S53))) 0 0 ([] : List Int) (([458759, 4259840001] : List Int)) 0 0 0 0).bind fun bt48 => ((q22z.f k t9 (([1, 2, 3] : List Int))).bind fun t64 => (if t64 = true then ((q22z.f k bt26.2.2.2.1 (([3, 4, 5] : List Int))).bind fun t68 => (if t68 = true then ((q22z.f k bt48.2.2.2.1 (([458759] : List Int))).bind fun t72 => (some t72)) else (some false))) else (some false))))) = some r := by first | (rw [hy20]; with_reducible exact H) | (have H2_ := (Option.bind_some _ _).symm.trans H; rw [hy20]; with_reducible exact H2_) | (have H2_ := (Option.bind_some _ _).symm.trans H; with_reducible exact H2_) | with_reducible exact H | (rw [hy20]; exact H) | exact H
 have Ny20 := Aside0.mk hy20
 clear hy20
 obtain ⟨y23, hy23⟩ : ∃ y_ : List Int, y_ = (([4] : List Int)) := ⟨_, rfl⟩
 replace H : ((q9z.f k 6 0 y20 ([] : List (S53)) 0 0 ([] : List Int) y23 0 0 0 0).bind fun bt26 => ((q9z.f k 8 0 ([] : List Int) (([(⟨false, (([(⟨4259840000, 4259905535⟩ : S50)] : List (S50)))⟩ : S53)] : List (S53))) 0 0 ([] : List Int) (([458759, 4259840001] : List Int)) 0 0 0 0).bind fun bt48 => ((q22z.f k t9 (([1, 2, 3] : List Int))).bind fun t64 => (if t64 = true then ((q22z.f k bt26.2.2.2.1 (([3, 4, 5] : List Int))).bind fun t68 => (if t68 = true then ((q22z.f k bt48.2.2.2.1 (([458759] : List Int))).bind fun t72 => (some t72)) else (some false))) else (some false))))) = some r := by first | (rw [hy23]; with_reducible exact H) | (have H2_ := (Option.bind_some _ _).symm.trans H; rw [hy23]; with_reducible exact H2_) | (have H2_ := (Option.bind_some _ _).symm.trans H; with_reducible exact H2_) | with_reducible exact H | (rw [hy23]; exact H) | exact H
 have Ny23 := Aside0.mk hy23
 clear hy23
 replace H := Option.bind_eq_some_iff.mp H
 obtain ⟨⟨t26, t27, t28, t31, t34, t35, t36, t37⟩, A20, H⟩ := H
 replace H : ((q9z.f k 8 0 ([] : List Int) (([(⟨false, (([(⟨4259840000, 4259905535⟩ : S50)] : List (S50)))⟩ : S53)] : List (S53))) 0 0 ([] : List Int) (([458759, 4259840001] : List Int)) 0 0 0 0).bind fun bt48 => ((q22z.f k t9 (([1, 2, 3] : List Int))).bind fun t64 => (if t64 = true then ((q22z.f k t31 (([3, 4, 5] : List Int))).bind fun t68 => (if t68 = true then ((q22z.f k bt48.2.2.2.1 (([458759] : List Int))).bind fun t72 => (some t72)) else (some false))) else (some false)))) = some r := H
 have A2 := Aside0.mk A20
 clear A20
 obtain ⟨y39, hy39⟩ : ∃ y_ : List (S50), y_ = (([(⟨4259840000, 4259905535⟩ : S50)] : List (S50))) := ⟨_, rfl⟩
 replace H : ((q9z.f k 8 0 ([] : List Int) (([(⟨false, y39⟩ : S53)] : List (S53))) 0 0 ([] : List Int) (([458759, 4259840001] : List Int)) 0 0 0 0).bind fun bt48 => ((q22z.f k t9 (([1, 2, 3] : List Int))).bind fun t64 => (if t64 = true then ((q22z.f k t31 (([3, 4, 5] : List Int))).bind fun t68 => (if t68 = true then ((q22z.f k bt48.2.2.2.1 (([458759] : List Int))).bind fun t72 => (some t72)) else (some false))) else (some false)))) = some r := by first | (rw [hy39]; with_reducible exact H) | (have H2_ := (Option.bind_some _ _).symm.trans H; rw [hy39]; with_reducible exact H2_) | (have H2_ := (Option.bind_some _ _).symm.trans H; with_reducible exact H2_) | with_reducible exact H | (rw [hy39]; exact H) | exact H
 have Ny39 := Aside0.mk hy39
 clear hy39
 obtain ⟨y42, hy42⟩ : ∃ y_ : List (S53), y_ = (([(⟨false, y39⟩ : S53)] : List (S53))) := ⟨_, rfl⟩
 replace H : ((q9z.f k 8 0 ([] : List Int) y42 0 0 ([] : List Int) (([458759, 4259840001] : List Int)) 0 0 0 0).bind fun bt48 => ((q22z.f k t9 (([1, 2, 3] : List Int))).bind fun t64 => (if t64 = true then ((q22z.f k t31 (([3, 4, 5] : List Int))).bind fun t68 => (if t68 = true then ((q22z.f k bt48.2.2.2.1 (([458759] : List Int))).bind fun t72 => (some t72)) else (some false))) else (some false)))) = some r := by first | (rw [hy42]; with_reducible exact H) | (have H2_ := (Option.bind_some _ _).symm.trans H; rw [hy42]; with_reducible exact H2_) | (have H2_ := (Option.bind_some _ _).symm.trans H; with_reducible exact H2_) | with_reducible exact H | (rw [hy42]; exact H) | exact H
 have Ny42 := Aside0.mk hy42
 clear hy42
 obtain ⟨y45, hy45⟩ : ∃ y_ : List Int, y_ = (([458759, 4259840001] : List Int)) := ⟨_, rfl⟩
 replace H : ((q9z.f k 8 0 ([] : List Int) y42 0 0 ([] : List Int) y45 0 0 0 0).bind fun bt48 => ((q22z.f k t9 (([1, 2, 3] : List Int))).bind fun t64 => (if t64 = true then ((q22z.f k t31 (([3, 4, 5] : List Int))).bind fun t68 => (if t68 = true then ((q22z.f k bt48.2.2.2.1 (([458759] : List Int))).bind fun t72 => (some t72)) else (some false))) else (some false)))) = some r := by first | (rw [hy45]; with_reducible exact H) | (have H2_ := (Option.bind_some _ _).symm.trans H; rw [hy45]; with_reducible exact H2_) | (have H2_ := (Option.bind_some _ _).symm.trans H; with_reducible exact H2_) | with_reducible exact H | (rw [hy45]; exact H) | exact H
 have Ny45 := Aside0.mk hy45
 clear hy45
 replace H := Option.bind_eq_some_iff.mp H
 obtain ⟨⟨t48, t49, t50, t53, t56, t57, t58, t59⟩, A30, H⟩ := H
 replace H : ((q22z.f k t9 (([1, 2, 3] : List Int))).bind fun t64 => (if t64 = true then ((q22z.f k t31 (([3, 4, 5] : List Int))).bind fun t68 => (if t68 = true then ((q22z.f k t53 (([458759] : List Int))).bind fun t72 => (some t72)) else (some false))) else (some false))) = some r := H
 have A3 := Aside0.mk A30
 clear A30
 obtain ⟨y61, hy61⟩ : ∃ y_ : List Int, y_ = (([1, 2, 3] : List Int)) := ⟨_, rfl⟩
 replace H : ((q22z.f k t9 y61).bind fun t64 => (if t64 = true then ((q22z.f k t31 (([3, 4, 5] : List Int))).bind fun t68 => (if t68 = true then ((q22z.f k t53 (([458759] : List Int))).bind fun t72 => (some t72)) else (some false))) else (some false))) = some r := by first | (rw [hy61]; with_reducible exact H) | (have H2_ := (Option.bind_some _ _).symm.trans H; rw [hy61]; with_reducible exact H2_) | (have H2_ := (Option.bind_some _ _).symm.trans H; with_reducible exact H2_) | with_reducible exact H | (rw [hy61]; exact H) | exact H
 have Ny61 := Aside0.mk hy61
 clear hy61
 replace H := Option.bind_eq_some_iff.mp H
 obtain ⟨t64, A40, H⟩ := H
 replace H : (if t64 = true then ((q22z.f k t31 (([3, 4, 5] : List Int))).bind fun t68 => (if t68 = true then ((q22z.f k t53 (([458759] : List Int))).bind fun t72 => (some t72)) else (some false))) else (some false)) = some r := H
 have A4 := Aside0.mk A40
 clear A40
 have HH_c5 := Aside0.mk H
 clear H
 go_enter Try.func8, Try.ntmps8
 go_upto_region 4 with (first | ((with_reducible refine gate_dst (N := 4) rfl ?_); (try (refine gate_guard (by rfl) ?_; dsimp only)); refine Kd.R_lit (Kd.int .u32) _ 22 ?hg (N := 4) ?hd (xs := ([1, 2] : List Int)) (inner := [.int .u32 1, .int .u32 2]) (ok := fun _ => True) (okp := fun _ => True) ?hr ?hp (fun _ hk => hk) trivial (Below.refl _ _) (Nat.le_refl _) (by simp) ?_; (case hd => rfl); (case hg => rfl); (case hr => first | (go_simp; done) | (go_simp; rfl)); (case hp => exact (Reps.one (show Kd.M (Kd.int .u32) _ _ _ 1 [.int .u32 1] from rfl) (Reps.one (show Kd.M (Kd.int .u32) _ _ _ 2 [.int .u32 2] from rfl) (Reps.none _ _)))); intro v2 w9 ho10 hb hg_ hnew_; clear hg_ hnew_; (first | rw [← Ny1.out] at ho10 | (simp only [Int.reduceToNat] at ho10; rw [← Ny1.out] at ho10)); have n0_ := Aside0.mk (Kd.R_lower ho10 (below_size (hbW HB))); have n1_ := hbS HB hb; clear HB; have HO3 := n0_; have HB := n1_; clear n0_ n1_; clear hb ho10; obtain ⟨Ao11, co11, eo11⟩ := Kd.R_slice HO3.out; subst eo11) | ((with_reducible refine gate_dst (N := 6) rfl ?_); (try (refine gate_guard (by rfl) ?_; dsimp only)); refine Kd.R_lit (Kd.int .u32) _ 22 ?hg (N := 6) ?hd (xs := ([3] : List Int)) (inner := [.int .u32 3]) (ok := fun _ => True) (okp := fun _ => True) ?hr ?hp (fun _ hk => hk) trivial (Below.refl _ _) (Nat.le_refl _) (by simp) ?_; (case hd => rfl); (case hg => rfl); (case hr => first | (go_simp; done) | (go_simp; rfl)); (case hp => exact (Reps.one (show Kd.M (Kd.int .u32) _ _ _ 3 [.int .u32 3] from rfl) (Reps.none _ _))); intro v5 w12 ho13 hb hg_ hnew_; clear hg_ hnew_; (first | rw [← Ny4.out] at ho13 | (simp only [Int.reduceToNat] at ho13; rw [← Ny4.out] at ho13)); have n0_ := Aside0.mk (Kd.R_elder' (rW HO3) (Kd.R_base ho13) hb); have n1_ := Aside0.mk (Kd.R_lower (Kd.R_new' ho13 (Kd.R_lt (rW HO3))) (below_size (hbW HB))); have n2_ := hbS HB hb; clear HO3; clear HB; have HO3 := n0_; have HO6 := n1_; have HB := n2_; clear n0_ n1_ n2_; clear hb ho13; obtain ⟨Ao14, co14, eo14⟩ := Kd.R_slice HO6.out; subst eo14) | ((with_reducible refine gate_callee (f := 13) rfl ?_); refine goesL_ (some 8) rfl rfl Try.func13 (by kernel_rfl) rfl #[.agg #[.int .i64 5, .int .u32 0, .slice Ao11 y1.length co11, .slice none 0 0], .agg #[.int .u32 0, .int .i64 0, .slice Ao14 y4.length co14, .slice none 0 0, .int .u32 0, .int .u32 0, .int .i64 0, .int .u32 0]] rfl (by (try simp only [List.map_toArray, List.map_cons, List.map_nil]); first | done | rfl | (simp only [List.length_drop, List.length_take]; rfl)) ?_; (refine (q9z.calls k 5 0 (fun k_ => some k_ = (.slice Ao11 y1.length co11 : Value).ownBlock) _ _ y1 _ _ ([] : List (S53)) 0 0 _ _ y4 _ _ ([] : List Int) 0 0 0 0 t7 t8 t9 t12 t15 t16 t17 t18 _ ?side1 ?side2 ?side3 ?side4 ?side5 ?side6 ?side7 A1.out).mono ?_); (case side1 => exact Kd.R_V (Kd.R_tight rfl (HO3.out))); (case side2 => exact Kd.C_nil _ _); (case side3 => exact Nat.le_refl _); (case side4 => repeat (first | exact (Kd.R_reads' HO6.out).2.2 | (with_reducible refine Kd.C_alloc ?_ _) | (with_reducible refine Kd.C_drewN ?_ _) | (with_reducible refine Kd.C_drew ?_))); (case side5 => exact (Kd.R_reads' HO6.out).2.1); (case side6 => exact Kd.C_nil _ _); (case side7 => exact Nat.le_refl _); rintro e w15 ⟨v10, v13, rfl, ho0, ho1, hb⟩; refine ⟨_, rfl, ?_⟩; have n0_ := Aside0.mk (Kd.R_mono (Kd.R_told (Kd.R_told (Kd.R_old (rW HO3) hb) (Kd.R_base ho0)) (Kd.R_base ho1)) (fun _ h_ => h_.1)); have n1_ := Aside0.mk (Kd.R_mono (Kd.R_told (Kd.R_told (Kd.R_old (rW HO6) hb) (Kd.R_base ho0)) (Kd.R_base ho1)) (fun _ h_ => h_.1)); have n2_ := Aside0.mk (Kd.R_lower (Kd.R_new' (Kd.R_new' (Kd.R_mono (ok' := fun k_ => some k_ ≠ (v13 : Value).ownBlock) ho0 (fun _ hk_ => hk_.2)) (Kd.R_lt (rW HO3))) (Kd.R_lt (rW HO6))) (below_size (hbW HB))); have n3_ := Aside0.mk (Kd.R_lower (Kd.R_new' (Kd.R_new' (Kd.R_mono (ok' := fun k_ => some k_ ≠ (v10 : Value).ownBlock) ho1 (fun _ hk_ => hk_.2)) (Kd.R_lt (rW HO3))) (Kd.R_lt (rW HO6))) (below_size (hbW HB))); have n4_ := hbS HB hb; clear HO3; clear HO6; clear HB; have HO3 := n0_; have HO6 := n1_; have HO11 := n2_; have HO14 := n3_; have HB := n4_; clear n0_ n1_ n2_ n3_ n4_; (try clear hb); (try clear hb2); (try clear hk); (try clear hi); (try clear ho0); (try clear ho1)) | ((with_reducible refine gate_dst (N := 1) rfl ?_); (try (refine gate_guard (by rfl) ?_; dsimp only)); refine box_event ?hg (N := 1) ?hd (cs := #[.int .u32 0, .int .i64 0, .slice none 0 0, .slice none 0 0, .int .u32 0, .int .u32 0, .int .i64 0, .int .u32 0]) (t := 30) ?hr ?_; (case hd => rfl); (case hg => rfl); (case hr => first | (go_simp; done) | (go_simp; rfl)); intro gb19 hg w16 hbox hb; have n0_ := Aside0.mk (Kd.R_below (rW HO3) hb); have n1_ := Aside0.mk (Kd.R_below (rW HO6) hb); have n2_ := Aside0.mk (Kd.R_below (rW HO11) hb); have n3_ := Aside0.mk (Kd.R_below (rW HO14) hb); have n4_ := hbS HB hb; have n5_ := Aside0.mk (hbox); have n6_ := Aside0.mk ((by rw [hg]; exact (below_size (hbW HB)) : w.heap.size ≤ gb19)); have n7_ := Aside0.mk ((by rw [hg]; exact (below_size (hbW HB)) : w.heap.size ≤ gb19)); clear HO3; clear HO6; clear HO11; clear HO14; clear HB; have HO3 := n0_; have HO6 := n1_; have HO11 := n2_; have HO14 := n3_; have HB := n4_; have BK19 := n5_; have GW19 := n6_; have GE19 := n7_; clear n0_ n1_ n2_ n3_ n4_ n5_ n6_ n7_; clear hb hbox hg; have hcz17_0 : w16.cell? ⟨gb19, 0, none⟩ = some (.int .u32 0) := (blk_cell BK19.out 0).trans rfl; have hcz17_1 : w16.cell? ⟨gb19, 1, none⟩ = some (.int .i64 0) := (blk_cell BK19.out 1).trans rfl; have hcz17_2 : w16.cell? ⟨gb19, 2, none⟩ = some (.slice none 0 0) := (blk_cell BK19.out 2).trans rfl; have hcz17_3 : w16.cell? ⟨gb19, 3, none⟩ = some (.slice none 0 0) := (blk_cell BK19.out 3).trans rfl; have hcz17_4 : w16.cell? ⟨gb19, 4, none⟩ = some (.int .u32 0) := (blk_cell BK19.out 4).trans rfl; have hcz17_5 : w16.cell? ⟨gb19, 5, none⟩ = some (.int .u32 0) := (blk_cell BK19.out 5).trans rfl; have hcz17_6 : w16.cell? ⟨gb19, 6, none⟩ = some (.int .i64 0) := (blk_cell BK19.out 6).trans rfl; have hcz17_7 : w16.cell? ⟨gb19, 7, none⟩ = some (.int .u32 0) := (blk_cell BK19.out 7).trans rfl; have hfz17_0 := blk_frozen BK19.out 0; have hfz17_1 := blk_frozen BK19.out 1; have hfz17_2 := blk_frozen BK19.out 2; have hfz17_3 := blk_frozen BK19.out 3; have hfz17_4 := blk_frozen BK19.out 4; have hfz17_5 := blk_frozen BK19.out 5; have hfz17_6 := blk_frozen BK19.out 6; have hfz17_7 := blk_frozen BK19.out 7; obtain ⟨Ao18, co18, eo18⟩ := Kd.R_slice HO11.out; subst eo18; obtain ⟨Ao19, co19, eo19⟩ := Kd.R_slice HO14.out; subst eo19) | ((with_reducible refine gate_dst (N := 9) rfl ?_); (try (refine gate_guard (by rfl) ?_; dsimp only)); refine Kd.R_lit (Kd.int .u32) _ 22 ?hg (N := 9) ?hd (xs := ([5, 3] : List Int)) (inner := [.int .u32 5, .int .u32 3]) (ok := fun _ => True) (okp := fun _ => True) ?hr ?hp (fun _ hk => hk) trivial (Below.refl _ _) (Nat.le_refl _) (by simp) ?_; (case hd => rfl); (case hg => rfl); (case hr => first | (go_simp; done) | (go_simp; rfl)); (case hp => exact (Reps.one (show Kd.M (Kd.int .u32) _ _ _ 5 [.int .u32 5] from rfl) (Reps.one (show Kd.M (Kd.int .u32) _ _ _ 3 [.int .u32 3] from rfl) (Reps.none _ _)))); intro v21 w20 ho21 hb hg_ hnew_; clear hg_ hnew_; (first | rw [← Ny20.out] at ho21 | (simp only [Int.reduceToNat] at ho21; rw [← Ny20.out] at ho21)); have n0_ := Aside0.mk (Kd.R_elder' (rW HO3) (Kd.R_base ho21) hb); have n1_ := Aside0.mk (Kd.R_elder' (rW HO6) (Kd.R_base ho21) hb); have n2_ := Aside0.mk (Kd.R_elder' (rW HO11) (Kd.R_base ho21) hb); have n3_ := Aside0.mk (Kd.R_elder' (rW HO14) (Kd.R_base ho21) hb); have n4_ := Aside0.mk (Kd.R_lower (Kd.R_new' (Kd.R_new' (Kd.R_new' (Kd.R_new' ho21 (Kd.R_lt (rW HO3))) (Kd.R_lt (rW HO6))) (Kd.R_lt (rW HO11))) (Kd.R_lt (rW HO14))) (below_size (hbW HB))); have n5_ := Aside0.mk (blk_below (g := gb19) (o := .cells #[.int .u32 t7, .int .i64 t8, .slice Ao18 t9.length co18, .slice Ao19 t12.length co19, .int .u32 t15, .int .u32 t16, .int .i64 t17, .int .u32 t18] 30 (0, 0)) (bp8 BK19) hb); have n6_ := hbS HB hb; clear HO3; clear HO6; clear HO11; clear HO14; clear BK19; clear HB; have HO3 := n0_; have HO6 := n1_; have HO11 := n2_; have HO14 := n3_; have HO22 := n4_; have BK19 := n5_; have HB := n6_; clear n0_ n1_ n2_ n3_ n4_ n5_ n6_; clear hb ho21; obtain ⟨Ao22, co22, eo22⟩ := Kd.R_slice HO22.out; subst eo22) | ((with_reducible refine gate_dst (N := 11) rfl ?_); (try (refine gate_guard (by rfl) ?_; dsimp only)); refine Kd.R_lit (Kd.int .u32) _ 22 ?hg (N := 11) ?hd (xs := ([4] : List Int)) (inner := [.int .u32 4]) (ok := fun _ => True) (okp := fun _ => True) ?hr ?hp (fun _ hk => hk) trivial (Below.refl _ _) (Nat.le_refl _) (by simp) ?_; (case hd => rfl); (case hg => rfl); (case hr => first | (go_simp; done) | (go_simp; rfl)); (case hp => exact (Reps.one (show Kd.M (Kd.int .u32) _ _ _ 4 [.int .u32 4] from rfl) (Reps.none _ _))); intro v24 w23 ho24 hb hg_ hnew_; clear hg_ hnew_; (first | rw [← Ny23.out] at ho24 | (simp only [Int.reduceToNat] at ho24; rw [← Ny23.out] at ho24)); have n0_ := Aside0.mk (Kd.R_elder' (rW HO3) (Kd.R_base ho24) hb); have n1_ := Aside0.mk (Kd.R_elder' (rW HO6) (Kd.R_base ho24) hb); have n2_ := Aside0.mk (Kd.R_elder' (rW HO11) (Kd.R_base ho24) hb); have n3_ := Aside0.mk (Kd.R_elder' (rW HO14) (Kd.R_base ho24) hb); have n4_ := Aside0.mk (Kd.R_elder' (rW HO22) (Kd.R_base ho24) hb); have n5_ := Aside0.mk (Kd.R_lower (Kd.R_new' (Kd.R_new' (Kd.R_new' (Kd.R_new' (Kd.R_new' ho24 (Kd.R_lt (rW HO3))) (Kd.R_lt (rW HO6))) (Kd.R_lt (rW HO11))) (Kd.R_lt (rW HO14))) (Kd.R_lt (rW HO22))) (below_size (hbW HB))); have n6_ := bkB BK19 hb; have n7_ := hbS HB hb; clear HO3; clear HO6; clear HO11; clear HO14; clear HO22; clear BK19; clear HB; have HO3 := n0_; have HO6 := n1_; have HO11 := n2_; have HO14 := n3_; have HO22 := n4_; have HO25 := n5_; have BK19 := n6_; have HB := n7_; clear n0_ n1_ n2_ n3_ n4_ n5_ n6_ n7_; clear hb ho24; obtain ⟨Ao25, co25, eo25⟩ := Kd.R_slice HO25.out; subst eo25) | ((with_reducible refine gate_callee (f := 13) rfl ?_); refine goesL_ (some 13) rfl rfl Try.func13 (by kernel_rfl) rfl #[.agg #[.int .i64 6, .int .u32 0, .slice Ao22 y20.length co22, .slice none 0 0], .agg #[.int .u32 0, .int .i64 0, .slice none 0 0, .slice Ao25 y23.length co25, .int .u32 0, .int .u32 0, .int .i64 0, .int .u32 0]] rfl (by (try simp only [List.map_toArray, List.map_cons, List.map_nil]); first | done | rfl | (simp only [List.length_drop, List.length_take]; rfl)) ?_; (refine (q9z.calls k 6 0 (fun k_ => some k_ = (.slice Ao22 y20.length co22 : Value).ownBlock) _ _ y20 _ _ ([] : List (S53)) 0 0 _ _ ([] : List Int) _ _ y23 0 0 0 0 t26 t27 t28 t31 t34 t35 t36 t37 _ ?side1 ?side2 ?side3 ?side4 ?side5 ?side6 ?side7 A2.out).mono ?_); (case side1 => exact Kd.R_V (Kd.R_tight rfl (Kd.R_types (HO22.out) BK19.out (by decide)))); (case side2 => exact Kd.C_nil _ _); (case side3 => exact Nat.le_refl _); (case side4 => exact Kd.C_nil _ _); (case side5 => exact Nat.le_refl _); (case side6 => repeat (first | exact (Kd.R_reads' HO25.out).2.2 | (with_reducible refine Kd.C_alloc ?_ _) | (with_reducible refine Kd.C_drewN ?_ _) | (with_reducible refine Kd.C_drew ?_))); (case side7 => exact (Kd.R_reads' HO25.out).2.1); rintro e w26 ⟨v29, v32, rfl, ho0, ho1, hb⟩; refine ⟨_, rfl, ?_⟩; have n0_ := Aside0.mk (Kd.R_mono (Kd.R_told (Kd.R_told (Kd.R_old (rW HO3) hb) (Kd.R_base ho0)) (Kd.R_base ho1)) (fun _ h_ => h_.1)); have n1_ := Aside0.mk (Kd.R_mono (Kd.R_told (Kd.R_told (Kd.R_old (rW HO6) hb) (Kd.R_base ho0)) (Kd.R_base ho1)) (fun _ h_ => h_.1)); have n2_ := Aside0.mk (Kd.R_mono (Kd.R_told (Kd.R_told (Kd.R_old (rW HO11) hb) (Kd.R_base ho0)) (Kd.R_base ho1)) (fun _ h_ => h_.1)); have n3_ := Aside0.mk (Kd.R_mono (Kd.R_told (Kd.R_told (Kd.R_old (rW HO14) hb) (Kd.R_base ho0)) (Kd.R_base ho1)) (fun _ h_ => h_.1)); have n4_ := Aside0.mk (Kd.R_mono (Kd.R_told (Kd.R_told (Kd.R_old (rW HO22) hb) (Kd.R_base ho0)) (Kd.R_base ho1)) (fun _ h_ => h_.1)); have n5_ := Aside0.mk (Kd.R_mono (Kd.R_told (Kd.R_told (Kd.R_old (rW HO25) hb) (Kd.R_base ho0)) (Kd.R_base ho1)) (fun _ h_ => h_.1)); have n6_ := Aside0.mk (Kd.R_lower (Kd.R_new' (Kd.R_new' (Kd.R_new' (Kd.R_new' (Kd.R_new' (Kd.R_new' (Kd.R_mono (ok' := fun k_ => some k_ ≠ (v32 : Value).ownBlock) ho0 (fun _ hk_ => hk_.2)) (Kd.R_lt (rW HO3))) (Kd.R_lt (rW HO6))) (Kd.R_lt (rW HO11))) (Kd.R_lt (rW HO14))) (Kd.R_lt (rW HO22))) (Kd.R_lt (rW HO25))) (below_size (hbW HB))); have n7_ := Aside0.mk (Kd.R_lower (Kd.R_new' (Kd.R_new' (Kd.R_new' (Kd.R_new' (Kd.R_new' (Kd.R_new' (Kd.R_mono (ok' := fun k_ => some k_ ≠ (v29 : Value).ownBlock) ho1 (fun _ hk_ => hk_.2)) (Kd.R_lt (rW HO3))) (Kd.R_lt (rW HO6))) (Kd.R_lt (rW HO11))) (Kd.R_lt (rW HO14))) (Kd.R_lt (rW HO22))) (Kd.R_lt (rW HO25))) (below_size (hbW HB))); have n8_ := bkB BK19 hb; have n9_ := hbS HB hb; clear HO3; clear HO6; clear HO11; clear HO14; clear HO22; clear HO25; clear BK19; clear HB; have HO3 := n0_; have HO6 := n1_; have HO11 := n2_; have HO14 := n3_; have HO22 := n4_; have HO25 := n5_; have HO30 := n6_; have HO33 := n7_; have BK19 := n8_; have HB := n9_; clear n0_ n1_ n2_ n3_ n4_ n5_ n6_ n7_ n8_ n9_; (try clear hb); (try clear hb2); (try clear hk); (try clear hi); (try clear ho0); (try clear ho1)) | ((with_reducible refine gate_dst (N := 2) rfl ?_); (try (refine gate_guard (by rfl) ?_; dsimp only)); refine box_event ?hg (N := 2) ?hd (cs := #[.int .u32 0, .int .i64 0, .slice none 0 0, .slice none 0 0, .int .u32 0, .int .u32 0, .int .i64 0, .int .u32 0]) (t := 30) ?hr ?_; (case hd => rfl); (case hg => rfl); (case hr => first | (go_simp; done) | (go_simp; rfl)); intro gb38 hg w27 hbox hb; have n0_ := Aside0.mk (Kd.R_below (rW HO3) hb); have n1_ := Aside0.mk (Kd.R_below (rW HO6) hb); have n2_ := Aside0.mk (Kd.R_below (rW HO11) hb); have n3_ := Aside0.mk (Kd.R_below (rW HO14) hb); have n4_ := Aside0.mk (Kd.R_below (rW HO22) hb); have n5_ := Aside0.mk (Kd.R_below (rW HO25) hb); have n6_ := Aside0.mk (Kd.R_below (rW HO30) hb); have n7_ := Aside0.mk (Kd.R_below (rW HO33) hb); have n8_ := bkB BK19 hb; have n9_ := hbS HB hb; have n10_ := Aside0.mk (hbox); have n11_ := Aside0.mk ((by rw [hg]; exact (below_size (hbW HB)) : w.heap.size ≤ gb38)); have n12_ := Aside0.mk ((by rw [hg]; exact (below_size (hbW HB)) : w.heap.size ≤ gb38)); have n13_ := Aside0.mk ((by rw [hg]; exact Nat.ne_of_lt (blk_lt (bkW BK19)) : gb19 ≠ gb38)); have n14_ := Aside0.mk ((by rw [hg]; exact Nat.ne_of_gt (blk_lt (bkW BK19)) : gb38 ≠ gb19)); clear HO3; clear HO6; clear HO11; clear HO14; clear HO22; clear HO25; clear HO30; clear HO33; clear BK19; clear HB; have HO3 := n0_; have HO6 := n1_; have HO11 := n2_; have HO14 := n3_; have HO22 := n4_; have HO25 := n5_; have HO30 := n6_; have HO33 := n7_; have BK19 := n8_; have HB := n9_; have BK38 := n10_; have GW38 := n11_; have GE38 := n12_; have NB19_38 := n13_; have NB38_19 := n14_; clear n0_ n1_ n2_ n3_ n4_ n5_ n6_ n7_ n8_ n9_ n10_ n11_ n12_ n13_ n14_; clear hb hbox hg; have hnb28 := NB38_19.out; have hnc28 := NB19_38.out; have hcz29_0 : w27.cell? ⟨gb38, 0, none⟩ = some (.int .u32 0) := (blk_cell BK38.out 0).trans rfl; have hcz29_1 : w27.cell? ⟨gb38, 1, none⟩ = some (.int .i64 0) := (blk_cell BK38.out 1).trans rfl; have hcz29_2 : w27.cell? ⟨gb38, 2, none⟩ = some (.slice none 0 0) := (blk_cell BK38.out 2).trans rfl; have hcz29_3 : w27.cell? ⟨gb38, 3, none⟩ = some (.slice none 0 0) := (blk_cell BK38.out 3).trans rfl; have hcz29_4 : w27.cell? ⟨gb38, 4, none⟩ = some (.int .u32 0) := (blk_cell BK38.out 4).trans rfl; have hcz29_5 : w27.cell? ⟨gb38, 5, none⟩ = some (.int .u32 0) := (blk_cell BK38.out 5).trans rfl; have hcz29_6 : w27.cell? ⟨gb38, 6, none⟩ = some (.int .i64 0) := (blk_cell BK38.out 6).trans rfl; have hcz29_7 : w27.cell? ⟨gb38, 7, none⟩ = some (.int .u32 0) := (blk_cell BK38.out 7).trans rfl; have hfz29_0 := blk_frozen BK38.out 0; have hfz29_1 := blk_frozen BK38.out 1; have hfz29_2 := blk_frozen BK38.out 2; have hfz29_3 := blk_frozen BK38.out 3; have hfz29_4 := blk_frozen BK38.out 4; have hfz29_5 := blk_frozen BK38.out 5; have hfz29_6 := blk_frozen BK38.out 6; have hfz29_7 := blk_frozen BK38.out 7; obtain ⟨Ao30, co30, eo30⟩ := Kd.R_slice HO30.out; subst eo30; obtain ⟨Ao31, co31, eo31⟩ := Kd.R_slice HO33.out; subst eo31) | ((with_reducible refine gate_dst (N := 15) rfl ?_); (try (refine gate_guard (by rfl) ?_; dsimp only)); refine Kd.R_lit k50 _ 50 ?hg (N := 15) ?hd (xs := ([(⟨4259840000, 4259905535⟩ : S50)] : List (S50))) (inner := [.int .u32 4259840000, .int .u32 4259905535]) (ok := fun _ => True) (okp := fun _ => True) ?hr ?hp (fun _ hk => hk) trivial (Below.refl _ _) (Nat.le_refl _) (by simp) ?_; (case hd => rfl); (case hg => rfl); (case hr => first | (go_simp; done) | (go_simp; rfl)); (case hp => exact (Reps.c2 (show Kd.M k50 _ _ _ (⟨4259840000, 4259905535⟩ : S50) [.int .u32 4259840000, .int .u32 4259905535] from (k50_mkM _ _ _ (⟨4259840000, 4259905535⟩ : S50) )) (Reps.none _ _))); intro v40 w32 ho33 hb hg_ hnew_; clear hg_ hnew_; (first | rw [← Ny39.out] at ho33 | (simp only [Int.reduceToNat] at ho33; rw [← Ny39.out] at ho33)); have n0_ := Aside0.mk (Kd.R_below (rW HO3) hb); have n1_ := Aside0.mk (Kd.R_below (rW HO6) hb); have n2_ := Aside0.mk (Kd.R_below (rW HO11) hb); have n3_ := Aside0.mk (Kd.R_below (rW HO14) hb); have n4_ := Aside0.mk (Kd.R_below (rW HO22) hb); have n5_ := Aside0.mk (Kd.R_below (rW HO25) hb); have n6_ := Aside0.mk (Kd.R_below (rW HO30) hb); have n7_ := Aside0.mk (Kd.R_below (rW HO33) hb); have n8_ := Aside0.mk (Kd.R_lower ho33 (below_size (hbW HB))); have n9_ := Aside0.mk (blk_below (g := gb19) (o := .cells #[.int .u32 t7, .int .i64 t8, .slice Ao18 t9.length co18, .slice Ao19 t12.length co19, .int .u32 t15, .int .u32 t16, .int .i64 t17, .int .u32 t18] 30 (0, 0)) (by (with_reducible repeat (first | refine blk_drewN ?_ _ | refine blk_drew ?_ | refine blk_alloc ?_ _)); refine blk_far ?_ NB19_38.out _; (with_reducible repeat (first | refine blk_drewN ?_ _ | refine blk_drew ?_ | refine blk_alloc ?_ _)); refine blk_far ?_ NB19_38.out _; (with_reducible repeat (first | refine blk_drewN ?_ _ | refine blk_drew ?_ | refine blk_alloc ?_ _)); refine blk_far ?_ NB19_38.out _; (with_reducible repeat (first | refine blk_drewN ?_ _ | refine blk_drew ?_ | refine blk_alloc ?_ _)); refine blk_far ?_ NB19_38.out _; (with_reducible repeat (first | refine blk_drewN ?_ _ | refine blk_drew ?_ | refine blk_alloc ?_ _)); refine blk_far ?_ NB19_38.out _; (with_reducible repeat (first | refine blk_drewN ?_ _ | refine blk_drew ?_ | refine blk_alloc ?_ _)); refine blk_far ?_ NB19_38.out _; (with_reducible repeat (first | refine blk_drewN ?_ _ | refine blk_drew ?_ | refine blk_alloc ?_ _)); refine blk_far ?_ NB19_38.out _; (with_reducible repeat (first | refine blk_drewN ?_ _ | refine blk_drew ?_ | refine blk_alloc ?_ _)); refine blk_far ?_ NB19_38.out _; (with_reducible repeat (first | refine blk_drewN ?_ _ | refine blk_drew ?_ | refine blk_alloc ?_ _)); exact BK19.out) hb); have n10_ := Aside0.mk (blk_below (g := gb38) (o := .cells #[.int .u32 t26, .int .i64 t27, .slice Ao30 t28.length co30, .slice Ao31 t31.length co31, .int .u32 t34, .int .u32 t35, .int .i64 t36, .int .u32 t37] 30 (0, 0)) (bp8 BK38) hb); have n11_ := hbS HB hb; clear HO3; clear HO6; clear HO11; clear HO14; clear HO22; clear HO25; clear HO30; clear HO33; clear BK19; clear BK38; clear HB; have HO3 := n0_; have HO6 := n1_; have HO11 := n2_; have HO14 := n3_; have HO22 := n4_; have HO25 := n5_; have HO30 := n6_; have HO33 := n7_; have HO41 := n8_; have BK19 := n9_; have BK38 := n10_; have HB := n11_; clear n0_ n1_ n2_ n3_ n4_ n5_ n6_ n7_ n8_ n9_ n10_ n11_; clear hb ho33; obtain ⟨Ao34, co34, eo34⟩ := Kd.R_slice HO41.out; subst eo34) | ((with_reducible refine gate_dst (N := 17) rfl ?_); (try (refine gate_guard (by rfl) ?_; dsimp only)); refine Kd.N_lit k53 _ 53 ?hg (N' := 17) ?hd (xs := ([(⟨false, y39⟩ : S53)] : List (S53))) (inner := [.bool false, .slice Ao34 y39.length co34]) (ok := (fun k_ => some k_ ≠ (.slice Ao11 y1.length co11 : Value).ownBlock ∧ some k_ ≠ (.slice Ao14 y4.length co14 : Value).ownBlock ∧ some k_ ≠ (.slice Ao18 t9.length co18 : Value).ownBlock ∧ some k_ ≠ (.slice Ao19 t12.length co19 : Value).ownBlock ∧ some k_ ≠ (.slice Ao22 y20.length co22 : Value).ownBlock ∧ some k_ ≠ (.slice Ao25 y23.length co25 : Value).ownBlock ∧ some k_ ≠ (.slice Ao30 t28.length co30 : Value).ownBlock ∧ some k_ ≠ (.slice Ao31 t31.length co31 : Value).ownBlock ∧ k_ ≠ gb19 ∧ k_ ≠ gb38)) (okp := (fun k_ => some k_ ≠ (.slice Ao11 y1.length co11 : Value).ownBlock ∧ some k_ ≠ (.slice Ao14 y4.length co14 : Value).ownBlock ∧ some k_ ≠ (.slice Ao18 t9.length co18 : Value).ownBlock ∧ some k_ ≠ (.slice Ao19 t12.length co19 : Value).ownBlock ∧ some k_ ≠ (.slice Ao22 y20.length co22 : Value).ownBlock ∧ some k_ ≠ (.slice Ao25 y23.length co25 : Value).ownBlock ∧ some k_ ≠ (.slice Ao30 t28.length co30 : Value).ownBlock ∧ some k_ ≠ (.slice Ao31 t31.length co31 : Value).ownBlock ∧ k_ ≠ gb19 ∧ k_ ≠ gb38)) ?hr ?hp (fun _ hk => hk) ((show ∀ k_, w32.heap.size ≤ k_ → (fun k_ => some k_ ≠ (.slice Ao11 y1.length co11 : Value).ownBlock ∧ some k_ ≠ (.slice Ao14 y4.length co14 : Value).ownBlock ∧ some k_ ≠ (.slice Ao18 t9.length co18 : Value).ownBlock ∧ some k_ ≠ (.slice Ao19 t12.length co19 : Value).ownBlock ∧ some k_ ≠ (.slice Ao22 y20.length co22 : Value).ownBlock ∧ some k_ ≠ (.slice Ao25 y23.length co25 : Value).ownBlock ∧ some k_ ≠ (.slice Ao30 t28.length co30 : Value).ownBlock ∧ some k_ ≠ (.slice Ao31 t31.length co31 : Value).ownBlock ∧ k_ ≠ gb19 ∧ k_ ≠ gb38) k_ from fun k_ hk => ⟨Kd.fresh' (Kd.R_lt (rW HO3)) k_ hk, Kd.fresh' (Kd.R_lt (rW HO6)) k_ hk, Kd.fresh' (Kd.R_lt (rW HO11)) k_ hk, Kd.fresh' (Kd.R_lt (rW HO14)) k_ hk, Kd.fresh' (Kd.R_lt (rW HO22)) k_ hk, Kd.fresh' (Kd.R_lt (rW HO25)) k_ hk, Kd.fresh' (Kd.R_lt (rW HO30)) k_ hk, Kd.fresh' (Kd.R_lt (rW HO33)) k_ hk, Kd.freshB (g := gb19) (o := .cells #[.int .u32 t7, .int .i64 t8, .slice Ao18 t9.length co18, .slice Ao19 t12.length co19, .int .u32 t15, .int .u32 t16, .int .i64 t17, .int .u32 t18] 30 (0, 0)) (bkW BK19) k_ hk, Kd.freshB (g := gb38) (o := .cells #[.int .u32 t26, .int .i64 t27, .slice Ao30 t28.length co30, .slice Ao31 t31.length co31, .int .u32 t34, .int .u32 t35, .int .i64 t36, .int .u32 t37] 30 (0, 0)) (bkW BK38) k_ hk⟩) _ (Nat.le_refl _)) (Below.refl _ _) (Nat.le_refl _) (by simp) ?_; (case hd => rfl); (case hg => rfl); (case hr => first | (go_simp; done) | (go_simp; rfl)); (case hp => exact (Reps.c2 (show Kd.FK k53 _ _ (⟨false, y39⟩ : S53) [.bool false, .slice Ao34 y39.length co34] from (k53_mkF _ _ (⟨false, y39⟩ : S53) (Kd.R_reads' (Kd.R_mono (ok' := (fun k_ => some k_ ≠ (.slice Ao11 y1.length co11 : Value).ownBlock ∧ some k_ ≠ (.slice Ao14 y4.length co14 : Value).ownBlock ∧ some k_ ≠ (.slice Ao18 t9.length co18 : Value).ownBlock ∧ some k_ ≠ (.slice Ao19 t12.length co19 : Value).ownBlock ∧ some k_ ≠ (.slice Ao22 y20.length co22 : Value).ownBlock ∧ some k_ ≠ (.slice Ao25 y23.length co25 : Value).ownBlock ∧ some k_ ≠ (.slice Ao30 t28.length co30 : Value).ownBlock ∧ some k_ ≠ (.slice Ao31 t31.length co31 : Value).ownBlock ∧ k_ ≠ gb19 ∧ k_ ≠ gb38)) (Kd.R_types (Kd.R_types (Kd.R_apart' (Kd.R_apart' (Kd.R_apart' (Kd.R_apart' (Kd.R_apart' (Kd.R_apart' (Kd.R_apart' (Kd.R_apart' (HO41.out) (Kd.R_typed HO3.out) (by decide)) (Kd.R_typed HO6.out) (by decide)) (Kd.R_typed HO11.out) (by decide)) (Kd.R_typed HO14.out) (by decide)) (Kd.R_typed HO22.out) (by decide)) (Kd.R_typed HO25.out) (by decide)) (Kd.R_typed HO30.out) (by decide)) (Kd.R_typed HO33.out) (by decide)) BK19.out (by decide)) BK38.out (by decide)) (fun k_ hk => ⟨hk.1.1.1.1.1.1.1.1.1.2, ⟨hk.1.1.1.1.1.1.1.1.2, ⟨hk.1.1.1.1.1.1.1.2, ⟨hk.1.1.1.1.1.1.2, ⟨hk.1.1.1.1.1.2, ⟨hk.1.1.1.1.2, ⟨hk.1.1.1.2, ⟨hk.1.1.2, ⟨hk.1.2, hk.2⟩⟩⟩⟩⟩⟩⟩⟩⟩))).2.1 (Kd.R_F (Kd.R_mono (ok' := (fun k_ => some k_ ≠ (.slice Ao11 y1.length co11 : Value).ownBlock ∧ some k_ ≠ (.slice Ao14 y4.length co14 : Value).ownBlock ∧ some k_ ≠ (.slice Ao18 t9.length co18 : Value).ownBlock ∧ some k_ ≠ (.slice Ao19 t12.length co19 : Value).ownBlock ∧ some k_ ≠ (.slice Ao22 y20.length co22 : Value).ownBlock ∧ some k_ ≠ (.slice Ao25 y23.length co25 : Value).ownBlock ∧ some k_ ≠ (.slice Ao30 t28.length co30 : Value).ownBlock ∧ some k_ ≠ (.slice Ao31 t31.length co31 : Value).ownBlock ∧ k_ ≠ gb19 ∧ k_ ≠ gb38)) (Kd.R_types (Kd.R_types (Kd.R_apart' (Kd.R_apart' (Kd.R_apart' (Kd.R_apart' (Kd.R_apart' (Kd.R_apart' (Kd.R_apart' (Kd.R_apart' (HO41.out) (Kd.R_typed HO3.out) (by decide)) (Kd.R_typed HO6.out) (by decide)) (Kd.R_typed HO11.out) (by decide)) (Kd.R_typed HO14.out) (by decide)) (Kd.R_typed HO22.out) (by decide)) (Kd.R_typed HO25.out) (by decide)) (Kd.R_typed HO30.out) (by decide)) (Kd.R_typed HO33.out) (by decide)) BK19.out (by decide)) BK38.out (by decide)) (fun k_ hk => ⟨hk.1.1.1.1.1.1.1.1.1.2, ⟨hk.1.1.1.1.1.1.1.1.2, ⟨hk.1.1.1.1.1.1.1.2, ⟨hk.1.1.1.1.1.1.2, ⟨hk.1.1.1.1.1.2, ⟨hk.1.1.1.1.2, ⟨hk.1.1.1.2, ⟨hk.1.1.2, ⟨hk.1.2, hk.2⟩⟩⟩⟩⟩⟩⟩⟩⟩))))) (Reps.none _ _))); intro v43 w35 ho36 hb hg_ hnew_; clear hg_ hnew_; (first | rw [← Ny42.out] at ho36 | (simp only [Int.reduceToNat] at ho36; rw [← Ny42.out] at ho36)); have n0_ := Aside0.mk (Kd.R_below (rW HO3) hb); have n1_ := Aside0.mk (Kd.R_below (rW HO6) hb); have n2_ := Aside0.mk (Kd.R_below (rW HO11) hb); have n3_ := Aside0.mk (Kd.R_below (rW HO14) hb); have n4_ := Aside0.mk (Kd.R_below (rW HO22) hb); have n5_ := Aside0.mk (Kd.R_below (rW HO25) hb); have n6_ := Aside0.mk (Kd.R_below (rW HO30) hb); have n7_ := Aside0.mk (Kd.R_below (rW HO33) hb); have n8_ := Aside0.mk (Kd.N_lower ho36 (below_size (hbW HB))); have n9_ := bkB BK19 hb; have n10_ := bkB BK38 hb; have n11_ := hbS HB hb; clear HO3; clear HO6; clear HO11; clear HO14; clear HO22; clear HO25; clear HO30; clear HO33; clear BK19; clear BK38; clear HB; clear HO41; have HO3 := n0_; have HO6 := n1_; have HO11 := n2_; have HO14 := n3_; have HO22 := n4_; have HO25 := n5_; have HO30 := n6_; have HO33 := n7_; have HO44 := n8_; have BK19 := n9_; have BK38 := n10_; have HB := n11_; clear n0_ n1_ n2_ n3_ n4_ n5_ n6_ n7_ n8_ n9_ n10_ n11_; clear hb ho36; obtain ⟨Ao37, co37, eo37⟩ := Kd.N_slice HO44.out; subst eo37) | ((with_reducible refine gate_dst (N := 19) rfl ?_); (try (refine gate_guard (by rfl) ?_; dsimp only)); refine Kd.R_lit (Kd.int .u32) _ 22 ?hg (N := 19) ?hd (xs := ([458759, 4259840001] : List Int)) (inner := [.int .u32 458759, .int .u32 4259840001]) (ok := fun _ => True) (okp := fun _ => True) ?hr ?hp (fun _ hk => hk) trivial (Below.refl _ _) (Nat.le_refl _) (by simp) ?_; (case hd => rfl); (case hg => rfl); (case hr => first | (go_simp; done) | (go_simp; rfl)); (case hp => exact (Reps.one (show Kd.M (Kd.int .u32) _ _ _ 458759 [.int .u32 458759] from rfl) (Reps.one (show Kd.M (Kd.int .u32) _ _ _ 4259840001 [.int .u32 4259840001] from rfl) (Reps.none _ _)))); intro v46 w38 ho39 hb hg_ hnew_; clear hg_ hnew_; (first | rw [← Ny45.out] at ho39 | (simp only [Int.reduceToNat] at ho39; rw [← Ny45.out] at ho39)); have n0_ := Aside0.mk (Kd.R_elder' (rW HO3) (Kd.R_base ho39) hb); have n1_ := Aside0.mk (Kd.R_elder' (rW HO6) (Kd.R_base ho39) hb); have n2_ := Aside0.mk (Kd.R_elder' (rW HO11) (Kd.R_base ho39) hb); have n3_ := Aside0.mk (Kd.R_elder' (rW HO14) (Kd.R_base ho39) hb); have n4_ := Aside0.mk (Kd.R_elder' (rW HO22) (Kd.R_base ho39) hb); have n5_ := Aside0.mk (Kd.R_elder' (rW HO25) (Kd.R_base ho39) hb); have n6_ := Aside0.mk (Kd.R_elder' (rW HO30) (Kd.R_base ho39) hb); have n7_ := Aside0.mk (Kd.R_elder' (rW HO33) (Kd.R_base ho39) hb); have n8_ := Aside0.mk (Kd.N_elder' (by (with_reducible repeat (first | apply Kd.N_alloc | apply Kd.N_drewN | apply Kd.N_drew)); exact HO44.out) (Kd.R_base ho39) hb); have n9_ := Aside0.mk (Kd.R_lower (Kd.R_new' (Kd.R_new' (Kd.R_new' (Kd.R_new' (Kd.R_new' (Kd.R_new' (Kd.R_new' (Kd.R_new' ho39 (Kd.R_lt (rW HO3))) (Kd.R_lt (rW HO6))) (Kd.R_lt (rW HO11))) (Kd.R_lt (rW HO14))) (Kd.R_lt (rW HO22))) (Kd.R_lt (rW HO25))) (Kd.R_lt (rW HO30))) (Kd.R_lt (rW HO33))) (below_size (hbW HB))); have n10_ := bkB BK19 hb; have n11_ := bkB BK38 hb; have n12_ := hbS HB hb; clear HO3; clear HO6; clear HO11; clear HO14; clear HO22; clear HO25; clear HO30; clear HO33; clear HO44; clear BK19; clear BK38; clear HB; have HO3 := n0_; have HO6 := n1_; have HO11 := n2_; have HO14 := n3_; have HO22 := n4_; have HO25 := n5_; have HO30 := n6_; have HO33 := n7_; have HO44 := n8_; have HO47 := n9_; have BK19 := n10_; have BK38 := n11_; have HB := n12_; clear n0_ n1_ n2_ n3_ n4_ n5_ n6_ n7_ n8_ n9_ n10_ n11_ n12_; clear hb ho39; obtain ⟨Ao40, co40, eo40⟩ := Kd.R_slice HO47.out; subst eo40) | ((with_reducible refine gate_callee (f := 13) rfl ?_); refine goesL_ (some 21) rfl rfl Try.func13 (by kernel_rfl) rfl #[.agg #[.int .i64 8, .int .u32 0, .slice none 0 0, .slice Ao37 y42.length co37], .agg #[.int .u32 0, .int .i64 0, .slice none 0 0, .slice Ao40 y45.length co40, .int .u32 0, .int .u32 0, .int .i64 0, .int .u32 0]] rfl (by (try simp only [List.map_toArray, List.map_cons, List.map_nil]); first | done | rfl | (simp only [List.length_drop, List.length_take]; rfl)) ?_; (refine (q9z.calls k 8 0 (fun k_ => False) _ _ ([] : List Int) _ _ y42 0 0 _ _ ([] : List Int) _ _ y45 0 0 0 0 t48 t49 t50 t53 t56 t57 t58 t59 _ ?side1 ?side2 ?side3 ?side4 ?side5 ?side6 ?side7 A3.out).mono ?_); (case side1 => exact Kd.V_nil _ _ _ _ _); (case side2 => repeat (first | exact (Kd.N_reads' HO44.out).2.2 | (with_reducible refine Kd.C_alloc ?_ _) | (with_reducible refine Kd.C_drewN ?_ _) | (with_reducible refine Kd.C_drew ?_))); (case side3 => exact (Kd.N_reads' HO44.out).2.1); (case side4 => exact Kd.C_nil _ _); (case side5 => exact Nat.le_refl _); (case side6 => repeat (first | exact (Kd.R_reads' HO47.out).2.2 | (with_reducible refine Kd.C_alloc ?_ _) | (with_reducible refine Kd.C_drewN ?_ _) | (with_reducible refine Kd.C_drew ?_))); (case side7 => exact (Kd.R_reads' HO47.out).2.1); rintro e w41 ⟨v51, v54, rfl, ho0, ho1, hb⟩; refine ⟨_, rfl, ?_⟩; have n0_ := Aside0.mk (Kd.R_mono (Kd.R_told (Kd.R_told (Kd.R_old (rW HO3) hb) (Kd.R_base ho0)) (Kd.R_base ho1)) (fun _ h_ => h_.1)); have n1_ := Aside0.mk (Kd.R_mono (Kd.R_told (Kd.R_told (Kd.R_old (rW HO6) hb) (Kd.R_base ho0)) (Kd.R_base ho1)) (fun _ h_ => h_.1)); have n2_ := Aside0.mk (Kd.R_mono (Kd.R_told (Kd.R_told (Kd.R_old (rW HO11) hb) (Kd.R_base ho0)) (Kd.R_base ho1)) (fun _ h_ => h_.1)); have n3_ := Aside0.mk (Kd.R_mono (Kd.R_told (Kd.R_told (Kd.R_old (rW HO14) hb) (Kd.R_base ho0)) (Kd.R_base ho1)) (fun _ h_ => h_.1)); have n4_ := Aside0.mk (Kd.R_mono (Kd.R_told (Kd.R_told (Kd.R_old (rW HO22) hb) (Kd.R_base ho0)) (Kd.R_base ho1)) (fun _ h_ => h_.1)); have n5_ := Aside0.mk (Kd.R_mono (Kd.R_told (Kd.R_told (Kd.R_old (rW HO25) hb) (Kd.R_base ho0)) (Kd.R_base ho1)) (fun _ h_ => h_.1)); have n6_ := Aside0.mk (Kd.R_mono (Kd.R_told (Kd.R_told (Kd.R_old (rW HO30) hb) (Kd.R_base ho0)) (Kd.R_base ho1)) (fun _ h_ => h_.1)); have n7_ := Aside0.mk (Kd.R_mono (Kd.R_told (Kd.R_told (Kd.R_old (rW HO33) hb) (Kd.R_base ho0)) (Kd.R_base ho1)) (fun _ h_ => h_.1)); have n8_ := Aside0.mk (Kd.N_mono (Kd.N_told (Kd.N_told (Kd.N_old (by (with_reducible repeat (first | apply Kd.N_alloc | apply Kd.N_drewN | apply Kd.N_drew)); exact HO44.out) hb) (Kd.R_base ho0)) (Kd.R_base ho1)) (fun _ h_ => h_.1)); have n9_ := Aside0.mk (Kd.R_mono (Kd.R_told (Kd.R_told (Kd.R_old (rW HO47) hb) (Kd.R_base ho0)) (Kd.R_base ho1)) (fun _ h_ => h_.1)); have n10_ := Aside0.mk (Kd.R_lower (Kd.R_new' (Kd.R_new' (Kd.R_new' (Kd.R_new' (Kd.R_new' (Kd.R_new' (Kd.R_new' (Kd.R_new' (Kd.R_new' (Kd.R_mono (ok' := fun k_ => some k_ ≠ (v54 : Value).ownBlock) ho0 (fun _ hk_ => hk_.2)) (Kd.R_lt (rW HO3))) (Kd.R_lt (rW HO6))) (Kd.R_lt (rW HO11))) (Kd.R_lt (rW HO14))) (Kd.R_lt (rW HO22))) (Kd.R_lt (rW HO25))) (Kd.R_lt (rW HO30))) (Kd.R_lt (rW HO33))) (Kd.R_lt (rW HO47))) (below_size (hbW HB))); have n11_ := Aside0.mk (Kd.R_lower (Kd.R_new' (Kd.R_new' (Kd.R_new' (Kd.R_new' (Kd.R_new' (Kd.R_new' (Kd.R_new' (Kd.R_new' (Kd.R_new' (Kd.R_mono (ok' := fun k_ => some k_ ≠ (v51 : Value).ownBlock) ho1 (fun _ hk_ => hk_.2)) (Kd.R_lt (rW HO3))) (Kd.R_lt (rW HO6))) (Kd.R_lt (rW HO11))) (Kd.R_lt (rW HO14))) (Kd.R_lt (rW HO22))) (Kd.R_lt (rW HO25))) (Kd.R_lt (rW HO30))) (Kd.R_lt (rW HO33))) (Kd.R_lt (rW HO47))) (below_size (hbW HB))); have n12_ := bkB BK19 hb; have n13_ := bkB BK38 hb; have n14_ := hbS HB hb; clear HO3; clear HO6; clear HO11; clear HO14; clear HO22; clear HO25; clear HO30; clear HO33; clear HO44; clear HO47; clear BK19; clear BK38; clear HB; have HO3 := n0_; have HO6 := n1_; have HO11 := n2_; have HO14 := n3_; have HO22 := n4_; have HO25 := n5_; have HO30 := n6_; have HO33 := n7_; have HO44 := n8_; have HO47 := n9_; have HO52 := n10_; have HO55 := n11_; have BK19 := n12_; have BK38 := n13_; have HB := n14_; clear n0_ n1_ n2_ n3_ n4_ n5_ n6_ n7_ n8_ n9_ n10_ n11_ n12_ n13_ n14_; (try clear hb); (try clear hb2); (try clear hk); (try clear hi); (try clear ho0); (try clear ho1)) | ((with_reducible refine gate_dst (N := 3) rfl ?_); (try (refine gate_guard (by rfl) ?_; dsimp only)); refine box_event ?hg (N := 3) ?hd (cs := #[.int .u32 0, .int .i64 0, .slice none 0 0, .slice none 0 0, .int .u32 0, .int .u32 0, .int .i64 0, .int .u32 0]) (t := 30) ?hr ?_; (case hd => rfl); (case hg => rfl); (case hr => first | (go_simp; done) | (go_simp; rfl)); intro gb60 hg w42 hbox hb; have n0_ := Aside0.mk (Kd.R_below (rW HO3) hb); have n1_ := Aside0.mk (Kd.R_below (rW HO6) hb); have n2_ := Aside0.mk (Kd.R_below (rW HO11) hb); have n3_ := Aside0.mk (Kd.R_below (rW HO14) hb); have n4_ := Aside0.mk (Kd.R_below (rW HO22) hb); have n5_ := Aside0.mk (Kd.R_below (rW HO25) hb); have n6_ := Aside0.mk (Kd.R_below (rW HO30) hb); have n7_ := Aside0.mk (Kd.R_below (rW HO33) hb); have n8_ := Aside0.mk (Kd.N_below (Kd.N_elderB (by (with_reducible repeat (first | apply Kd.N_alloc | apply Kd.N_drewN | apply Kd.N_drew)); exact HO44.out) gb60 (Nat.le_of_eq hg.symm)) hb); have n9_ := Aside0.mk (Kd.R_below (rW HO47) hb); have n10_ := Aside0.mk (Kd.R_below (rW HO52) hb); have n11_ := Aside0.mk (Kd.R_below (rW HO55) hb); have n12_ := bkB BK19 hb; have n13_ := bkB BK38 hb; have n14_ := hbS HB hb; have n15_ := Aside0.mk (hbox); have n16_ := Aside0.mk ((by rw [hg]; exact (below_size (hbW HB)) : w.heap.size ≤ gb60)); have n17_ := Aside0.mk ((by rw [hg]; exact (below_size (hbW HB)) : w.heap.size ≤ gb60)); have n18_ := Aside0.mk ((by rw [hg]; exact Nat.ne_of_lt (blk_lt (bkW BK19)) : gb19 ≠ gb60)); have n19_ := Aside0.mk ((by rw [hg]; exact Nat.ne_of_gt (blk_lt (bkW BK19)) : gb60 ≠ gb19)); have n20_ := Aside0.mk ((by rw [hg]; exact Nat.ne_of_lt (blk_lt (bkW BK38)) : gb38 ≠ gb60)); have n21_ := Aside0.mk ((by rw [hg]; exact Nat.ne_of_gt (blk_lt (bkW BK38)) : gb60 ≠ gb38)); clear HO3; clear HO6; clear HO11; clear HO14; clear HO22; clear HO25; clear HO30; clear HO33; clear HO44; clear HO47; clear HO52; clear HO55; clear BK19; clear BK38; clear HB; have HO3 := n0_; have HO6 := n1_; have HO11 := n2_; have HO14 := n3_; have HO22 := n4_; have HO25 := n5_; have HO30 := n6_; have HO33 := n7_; have HO44 := n8_; have HO47 := n9_; have HO52 := n10_; have HO55 := n11_; have BK19 := n12_; have BK38 := n13_; have HB := n14_; have BK60 := n15_; have GW60 := n16_; have GE60 := n17_; have NB19_60 := n18_; have NB60_19 := n19_; have NB38_60 := n20_; have NB60_38 := n21_; clear n0_ n1_ n2_ n3_ n4_ n5_ n6_ n7_ n8_ n9_ n10_ n11_ n12_ n13_ n14_ n15_ n16_ n17_ n18_ n19_ n20_ n21_; clear hb hbox hg; have hnb43 := NB60_19.out; have hnc43 := NB19_60.out; have hnb44 := NB60_38.out; have hnc44 := NB38_60.out; have hcz45_0 : w42.cell? ⟨gb60, 0, none⟩ = some (.int .u32 0) := (blk_cell BK60.out 0).trans rfl; have hcz45_1 : w42.cell? ⟨gb60, 1, none⟩ = some (.int .i64 0) := (blk_cell BK60.out 1).trans rfl; have hcz45_2 : w42.cell? ⟨gb60, 2, none⟩ = some (.slice none 0 0) := (blk_cell BK60.out 2).trans rfl; have hcz45_3 : w42.cell? ⟨gb60, 3, none⟩ = some (.slice none 0 0) := (blk_cell BK60.out 3).trans rfl; have hcz45_4 : w42.cell? ⟨gb60, 4, none⟩ = some (.int .u32 0) := (blk_cell BK60.out 4).trans rfl; have hcz45_5 : w42.cell? ⟨gb60, 5, none⟩ = some (.int .u32 0) := (blk_cell BK60.out 5).trans rfl; have hcz45_6 : w42.cell? ⟨gb60, 6, none⟩ = some (.int .i64 0) := (blk_cell BK60.out 6).trans rfl; have hcz45_7 : w42.cell? ⟨gb60, 7, none⟩ = some (.int .u32 0) := (blk_cell BK60.out 7).trans rfl; have hfz45_0 := blk_frozen BK60.out 0; have hfz45_1 := blk_frozen BK60.out 1; have hfz45_2 := blk_frozen BK60.out 2; have hfz45_3 := blk_frozen BK60.out 3; have hfz45_4 := blk_frozen BK60.out 4; have hfz45_5 := blk_frozen BK60.out 5; have hfz45_6 := blk_frozen BK60.out 6; have hfz45_7 := blk_frozen BK60.out 7; obtain ⟨Ao46, co46, eo46⟩ := Kd.R_slice HO52.out; subst eo46; obtain ⟨Ao47, co47, eo47⟩ := Kd.R_slice HO55.out; subst eo47; have hcz146_0 : w42.cell? ⟨gb19, 0, none⟩ = some (.int .u32 t7) := (blk_cell BK19.out 0).trans rfl; have hcz146_1 : w42.cell? ⟨gb19, 1, none⟩ = some (.int .i64 t8) := (blk_cell BK19.out 1).trans rfl; have hcz146_2 : w42.cell? ⟨gb19, 2, none⟩ = some (.slice Ao18 t9.length co18) := (blk_cell BK19.out 2).trans rfl; have hcz146_3 : w42.cell? ⟨gb19, 3, none⟩ = some (.slice Ao19 t12.length co19) := (blk_cell BK19.out 3).trans rfl; have hcz146_4 : w42.cell? ⟨gb19, 4, none⟩ = some (.int .u32 t15) := (blk_cell BK19.out 4).trans rfl; have hcz146_5 : w42.cell? ⟨gb19, 5, none⟩ = some (.int .u32 t16) := (blk_cell BK19.out 5).trans rfl; have hcz146_6 : w42.cell? ⟨gb19, 6, none⟩ = some (.int .i64 t17) := (blk_cell BK19.out 6).trans rfl; have hcz146_7 : w42.cell? ⟨gb19, 7, none⟩ = some (.int .u32 t18) := (blk_cell BK19.out 7).trans rfl; have hfz146_0 := blk_frozen BK19.out 0; have hfz146_1 := blk_frozen BK19.out 1; have hfz146_2 := blk_frozen BK19.out 2; have hfz146_3 := blk_frozen BK19.out 3; have hfz146_4 := blk_frozen BK19.out 4; have hfz146_5 := blk_frozen BK19.out 5; have hfz146_6 := blk_frozen BK19.out 6; have hfz146_7 := blk_frozen BK19.out 7))
 have H := HH_c5.out
 clear HH_c5
 by_cases c5 : t64 = true
 ·
  subst c5
  have H1 : ((q22z.f k t31 (([3, 4, 5] : List Int))).bind fun t68 => (if t68 = true then ((q22z.f k t53 (([458759] : List Int))).bind fun t72 => (some t72)) else (some false))) = some r := by rw [if_pos rfl] at H; exact H
  clear H
  have H := H1
  clear H1
  obtain ⟨y65, hy65⟩ : ∃ y_ : List Int, y_ = (([3, 4, 5] : List Int)) := ⟨_, rfl⟩
  replace H : ((q22z.f k t31 y65).bind fun t68 => (if t68 = true then ((q22z.f k t53 (([458759] : List Int))).bind fun t72 => (some t72)) else (some false))) = some r := by first | (rw [hy65]; with_reducible exact H) | (have H2_ := (Option.bind_some _ _).symm.trans H; rw [hy65]; with_reducible exact H2_) | (have H2_ := (Option.bind_some _ _).symm.trans H; with_reducible exact H2_) | with_reducible exact H | (rw [hy65]; exact H) | exact H
  have Ny65 := Aside0.mk hy65
  clear hy65
  replace H := Option.bind_eq_some_iff.mp H
  obtain ⟨t68, A60, H⟩ := H
  replace H : (if t68 = true then ((q22z.f k t53 (([458759] : List Int))).bind fun t72 => (some t72)) else (some false)) = some r := H
  have A6 := Aside0.mk A60
  clear A60
  by_cases c7 : t68 = true
  ·
   subst c7
   have H1 : ((q22z.f k t53 (([458759] : List Int))).bind fun t72 => (some t72)) = some r := by rw [if_pos rfl] at H; exact H
   clear H
   have H := H1
   clear H1
   obtain ⟨y69, hy69⟩ : ∃ y_ : List Int, y_ = (([458759] : List Int)) := ⟨_, rfl⟩
   replace H : ((q22z.f k t53 y69).bind fun t72 => (some t72)) = some r := by first | (rw [hy69]; with_reducible exact H) | (have H2_ := (Option.bind_some _ _).symm.trans H; rw [hy69]; with_reducible exact H2_) | (have H2_ := (Option.bind_some _ _).symm.trans H; with_reducible exact H2_) | with_reducible exact H | (rw [hy69]; exact H) | exact H
   have Ny69 := Aside0.mk hy69
   clear hy69
   replace H := Option.bind_eq_some_iff.mp H
   obtain ⟨t72, A80, H⟩ := H
   replace H : (some t72) = some r := H
   have A8 := Aside0.mk A80
   clear A80
   obtain rfl := Option.some.inj H
   go_wp2_with (first | ((with_reducible refine gate_dst (N := 24) rfl ?_); (try (refine gate_guard (by rfl) ?_; dsimp only)); refine Kd.R_lit (Kd.int .u32) _ 22 ?hg (N := 24) ?hd (xs := ([1, 2, 3] : List Int)) (inner := [.int .u32 1, .int .u32 2, .int .u32 3]) (ok := fun _ => True) (okp := fun _ => True) ?hr ?hp (fun _ hk => hk) trivial (Below.refl _ _) (Nat.le_refl _) (by simp) ?_; (case hd => rfl); (case hg => rfl); (case hr => first | (go_simp; done) | (go_simp; rfl)); (case hp => exact (Reps.one (show Kd.M (Kd.int .u32) _ _ _ 1 [.int .u32 1] from rfl) (Reps.one (show Kd.M (Kd.int .u32) _ _ _ 2 [.int .u32 2] from rfl) (Reps.one (show Kd.M (Kd.int .u32) _ _ _ 3 [.int .u32 3] from rfl) (Reps.none _ _))))); intro v62 w49 ho50 hb hg_ hnew_; clear hg_ hnew_; (first | rw [← Ny61.out] at ho50 | (simp only [Int.reduceToNat] at ho50; rw [← Ny61.out] at ho50)); have n0_ := Aside0.mk (Kd.R_elder' (rW HO3) (Kd.R_base ho50) hb); have n1_ := Aside0.mk (Kd.R_elder' (rW HO6) (Kd.R_base ho50) hb); have n2_ := Aside0.mk (Kd.R_elder' (rW HO11) (Kd.R_base ho50) hb); have n3_ := Aside0.mk (Kd.R_elder' (rW HO14) (Kd.R_base ho50) hb); have n4_ := Aside0.mk (Kd.R_elder' (rW HO22) (Kd.R_base ho50) hb); have n5_ := Aside0.mk (Kd.R_elder' (rW HO25) (Kd.R_base ho50) hb); have n6_ := Aside0.mk (Kd.R_elder' (rW HO30) (Kd.R_base ho50) hb); have n7_ := Aside0.mk (Kd.R_elder' (rW HO33) (Kd.R_base ho50) hb); have n8_ := Aside0.mk (Kd.N_elder' (by (with_reducible repeat (first | apply Kd.N_alloc | apply Kd.N_drewN | apply Kd.N_drew)); exact (Kd.N_mono (Kd.N_far (p := ⟨gb60, 7, none⟩) (Kd.N_far (p := ⟨gb60, 6, none⟩) (Kd.N_far (p := ⟨gb60, 5, none⟩) (Kd.N_far (p := ⟨gb60, 4, none⟩) (Kd.N_far (p := ⟨gb60, 3, none⟩) (Kd.N_far (p := ⟨gb60, 2, none⟩) (Kd.N_far (p := ⟨gb60, 1, none⟩) (Kd.N_far (p := ⟨gb60, 0, none⟩) (Kd.N_mono HO44.out (fun k_ hk => (⟨hk, hk.2⟩ : _ ∧ k_ ≠ gb60))) (fun _ hk => hk.2) (.int .u32 t48)) (fun _ hk => hk.2) (.int .i64 t49)) (fun _ hk => hk.2) (.slice Ao46 t50.length co46)) (fun _ hk => hk.2) (.slice Ao47 t53.length co47)) (fun _ hk => hk.2) (.int .u32 t56)) (fun _ hk => hk.2) (.int .u32 t57)) (fun _ hk => hk.2) (.int .i64 t58)) (fun _ hk => hk.2) (.int .u32 t59)) (fun _ h_ => h_.1))) (Kd.R_base ho50) hb); have n9_ := Aside0.mk (Kd.R_elder' (rW HO47) (Kd.R_base ho50) hb); have n10_ := Aside0.mk (Kd.R_elder' (rW HO52) (Kd.R_base ho50) hb); have n11_ := Aside0.mk (Kd.R_elder' (rW HO55) (Kd.R_base ho50) hb); have n12_ := Aside0.mk (Kd.R_lower (Kd.R_new' (Kd.R_new' (Kd.R_new' (Kd.R_new' (Kd.R_new' (Kd.R_new' (Kd.R_new' (Kd.R_new' (Kd.R_new' (Kd.R_new' (Kd.R_new' ho50 (Kd.R_lt (rW HO3))) (Kd.R_lt (rW HO6))) (Kd.R_lt (rW HO11))) (Kd.R_lt (rW HO14))) (Kd.R_lt (rW HO22))) (Kd.R_lt (rW HO25))) (Kd.R_lt (rW HO30))) (Kd.R_lt (rW HO33))) (Kd.R_lt (rW HO47))) (Kd.R_lt (rW HO52))) (Kd.R_lt (rW HO55))) (below_size (hbW HB))); have n13_ := Aside0.mk (blk_below (g := gb19) (o := .cells #[.int .u32 t7, .int .i64 t8, .slice Ao18 t9.length co18, .slice Ao19 t12.length co19, .int .u32 t15, .int .u32 t16, .int .i64 t17, .int .u32 t18] 30 (0, 0)) (by (with_reducible repeat (first | refine blk_drewN ?_ _ | refine blk_drew ?_ | refine blk_alloc ?_ _)); refine blk_far ?_ NB19_60.out _; (with_reducible repeat (first | refine blk_drewN ?_ _ | refine blk_drew ?_ | refine blk_alloc ?_ _)); refine blk_far ?_ NB19_60.out _; (with_reducible repeat (first | refine blk_drewN ?_ _ | refine blk_drew ?_ | refine blk_alloc ?_ _)); refine blk_far ?_ NB19_60.out _; (with_reducible repeat (first | refine blk_drewN ?_ _ | refine blk_drew ?_ | refine blk_alloc ?_ _)); refine blk_far ?_ NB19_60.out _; (with_reducible repeat (first | refine blk_drewN ?_ _ | refine blk_drew ?_ | refine blk_alloc ?_ _)); refine blk_far ?_ NB19_60.out _; (with_reducible repeat (first | refine blk_drewN ?_ _ | refine blk_drew ?_ | refine blk_alloc ?_ _)); refine blk_far ?_ NB19_60.out _; (with_reducible repeat (first | refine blk_drewN ?_ _ | refine blk_drew ?_ | refine blk_alloc ?_ _)); refine blk_far ?_ NB19_60.out _; (with_reducible repeat (first | refine blk_drewN ?_ _ | refine blk_drew ?_ | refine blk_alloc ?_ _)); refine blk_far ?_ NB19_60.out _; (with_reducible repeat (first | refine blk_drewN ?_ _ | refine blk_drew ?_ | refine blk_alloc ?_ _)); exact BK19.out) hb); have n14_ := Aside0.mk (blk_below (g := gb38) (o := .cells #[.int .u32 t26, .int .i64 t27, .slice Ao30 t28.length co30, .slice Ao31 t31.length co31, .int .u32 t34, .int .u32 t35, .int .i64 t36, .int .u32 t37] 30 (0, 0)) (by (with_reducible repeat (first | refine blk_drewN ?_ _ | refine blk_drew ?_ | refine blk_alloc ?_ _)); refine blk_far ?_ NB38_60.out _; (with_reducible repeat (first | refine blk_drewN ?_ _ | refine blk_drew ?_ | refine blk_alloc ?_ _)); refine blk_far ?_ NB38_60.out _; (with_reducible repeat (first | refine blk_drewN ?_ _ | refine blk_drew ?_ | refine blk_alloc ?_ _)); refine blk_far ?_ NB38_60.out _; (with_reducible repeat (first | refine blk_drewN ?_ _ | refine blk_drew ?_ | refine blk_alloc ?_ _)); refine blk_far ?_ NB38_60.out _; (with_reducible repeat (first | refine blk_drewN ?_ _ | refine blk_drew ?_ | refine blk_alloc ?_ _)); refine blk_far ?_ NB38_60.out _; (with_reducible repeat (first | refine blk_drewN ?_ _ | refine blk_drew ?_ | refine blk_alloc ?_ _)); refine blk_far ?_ NB38_60.out _; (with_reducible repeat (first | refine blk_drewN ?_ _ | refine blk_drew ?_ | refine blk_alloc ?_ _)); refine blk_far ?_ NB38_60.out _; (with_reducible repeat (first | refine blk_drewN ?_ _ | refine blk_drew ?_ | refine blk_alloc ?_ _)); refine blk_far ?_ NB38_60.out _; (with_reducible repeat (first | refine blk_drewN ?_ _ | refine blk_drew ?_ | refine blk_alloc ?_ _)); exact BK38.out) hb); have n15_ := Aside0.mk (blk_below (g := gb60) (o := .cells #[.int .u32 t48, .int .i64 t49, .slice Ao46 t50.length co46, .slice Ao47 t53.length co47, .int .u32 t56, .int .u32 t57, .int .i64 t58, .int .u32 t59] 30 (0, 0)) (bp8 BK60) hb); have n16_ := hbS HB hb; clear HO3; clear HO6; clear HO11; clear HO14; clear HO22; clear HO25; clear HO30; clear HO33; clear HO44; clear HO47; clear HO52; clear HO55; clear BK19; clear BK38; clear BK60; clear HB; have HO3 := n0_; have HO6 := n1_; have HO11 := n2_; have HO14 := n3_; have HO22 := n4_; have HO25 := n5_; have HO30 := n6_; have HO33 := n7_; have HO44 := n8_; have HO47 := n9_; have HO52 := n10_; have HO55 := n11_; have HO63 := n12_; have BK19 := n13_; have BK38 := n14_; have BK60 := n15_; have HB := n16_; clear n0_ n1_ n2_ n3_ n4_ n5_ n6_ n7_ n8_ n9_ n10_ n11_ n12_ n13_ n14_ n15_ n16_; clear hb ho50; obtain ⟨Ao51, co51, eo51⟩ := Kd.R_slice HO63.out; subst eo51) | ((with_reducible refine gate_callee (f := 20) rfl ?_); refine goesL_ (some 25) rfl rfl Try.func20 (by kernel_rfl) rfl #[.slice Ao18 t9.length co18, .slice Ao51 y61.length co51] rfl (by (try simp only [List.map_toArray, List.map_cons, List.map_nil]); first | done | rfl | (simp only [List.length_drop, List.length_take]; rfl)) ?_; (with_reducible refine (q22z.calls k _ _ t9 _ _ y61 true _ ?side1 ?side2 ?side3 ?side4 A4.out).mono ?_); (case side1 => repeat (first | exact (Kd.R_reads' HO11.out).2.2 | (with_reducible refine Kd.C_alloc ?_ _) | (with_reducible refine Kd.C_drewN ?_ _) | (with_reducible refine Kd.C_drew ?_))); (case side2 => exact (Kd.R_reads' HO11.out).2.1); (case side3 => repeat (first | exact (Kd.R_reads' HO63.out).2.2 | (with_reducible refine Kd.C_alloc ?_ _) | (with_reducible refine Kd.C_drewN ?_ _) | (with_reducible refine Kd.C_drew ?_))); (case side4 => exact (Kd.R_reads' HO63.out).2.1); rintro e w' ⟨rfl, ⟨nd, rfl⟩⟩; refine ⟨_, rfl, ?_⟩; have hcz52_0 : w49.cell? ⟨gb38, 0, none⟩ = some (.int .u32 t26) := (blk_cell BK38.out 0).trans rfl; have hcz52_1 : w49.cell? ⟨gb38, 1, none⟩ = some (.int .i64 t27) := (blk_cell BK38.out 1).trans rfl; have hcz52_2 : w49.cell? ⟨gb38, 2, none⟩ = some (.slice Ao30 t28.length co30) := (blk_cell BK38.out 2).trans rfl; have hcz52_3 : w49.cell? ⟨gb38, 3, none⟩ = some (.slice Ao31 t31.length co31) := (blk_cell BK38.out 3).trans rfl; have hcz52_4 : w49.cell? ⟨gb38, 4, none⟩ = some (.int .u32 t34) := (blk_cell BK38.out 4).trans rfl; have hcz52_5 : w49.cell? ⟨gb38, 5, none⟩ = some (.int .u32 t35) := (blk_cell BK38.out 5).trans rfl; have hcz52_6 : w49.cell? ⟨gb38, 6, none⟩ = some (.int .i64 t36) := (blk_cell BK38.out 6).trans rfl; have hcz52_7 : w49.cell? ⟨gb38, 7, none⟩ = some (.int .u32 t37) := (blk_cell BK38.out 7).trans rfl; have hfz52_0 := blk_frozen BK38.out 0; have hfz52_1 := blk_frozen BK38.out 1; have hfz52_2 := blk_frozen BK38.out 2; have hfz52_3 := blk_frozen BK38.out 3; have hfz52_4 := blk_frozen BK38.out 4; have hfz52_5 := blk_frozen BK38.out 5; have hfz52_6 := blk_frozen BK38.out 6; have hfz52_7 := blk_frozen BK38.out 7) | ((with_reducible refine gate_dst (N := 29) rfl ?_); (try (refine gate_guard (by rfl) ?_; dsimp only)); refine Kd.R_lit (Kd.int .u32) _ 22 ?hg (N := 29) ?hd (xs := ([3, 4, 5] : List Int)) (inner := [.int .u32 3, .int .u32 4, .int .u32 5]) (ok := fun _ => True) (okp := fun _ => True) ?hr ?hp (fun _ hk => hk) trivial (Below.refl _ _) (Nat.le_refl _) (by simp) ?_; (case hd => rfl); (case hg => rfl); (case hr => first | (go_simp; done) | (go_simp; rfl)); (case hp => exact (Reps.one (show Kd.M (Kd.int .u32) _ _ _ 3 [.int .u32 3] from rfl) (Reps.one (show Kd.M (Kd.int .u32) _ _ _ 4 [.int .u32 4] from rfl) (Reps.one (show Kd.M (Kd.int .u32) _ _ _ 5 [.int .u32 5] from rfl) (Reps.none _ _))))); intro v66 w53 ho54 hb hg_ hnew_; clear hg_ hnew_; (first | rw [← Ny65.out] at ho54 | (simp only [Int.reduceToNat] at ho54; rw [← Ny65.out] at ho54)); have n0_ := Aside0.mk (Kd.R_elder' (rW HO3) (Kd.R_base ho54) hb); have n1_ := Aside0.mk (Kd.R_elder' (rW HO6) (Kd.R_base ho54) hb); have n2_ := Aside0.mk (Kd.R_elder' (rW HO11) (Kd.R_base ho54) hb); have n3_ := Aside0.mk (Kd.R_elder' (rW HO14) (Kd.R_base ho54) hb); have n4_ := Aside0.mk (Kd.R_elder' (rW HO22) (Kd.R_base ho54) hb); have n5_ := Aside0.mk (Kd.R_elder' (rW HO25) (Kd.R_base ho54) hb); have n6_ := Aside0.mk (Kd.R_elder' (rW HO30) (Kd.R_base ho54) hb); have n7_ := Aside0.mk (Kd.R_elder' (rW HO33) (Kd.R_base ho54) hb); have n8_ := Aside0.mk (Kd.N_elder' (by (with_reducible repeat (first | apply Kd.N_alloc | apply Kd.N_drewN | apply Kd.N_drew)); exact HO44.out) (Kd.R_base ho54) hb); have n9_ := Aside0.mk (Kd.R_elder' (rW HO47) (Kd.R_base ho54) hb); have n10_ := Aside0.mk (Kd.R_elder' (rW HO52) (Kd.R_base ho54) hb); have n11_ := Aside0.mk (Kd.R_elder' (rW HO55) (Kd.R_base ho54) hb); have n12_ := Aside0.mk (Kd.R_elder' (rW HO63) (Kd.R_base ho54) hb); have n13_ := Aside0.mk (Kd.R_lower (Kd.R_new' (Kd.R_new' (Kd.R_new' (Kd.R_new' (Kd.R_new' (Kd.R_new' (Kd.R_new' (Kd.R_new' (Kd.R_new' (Kd.R_new' (Kd.R_new' (Kd.R_new' ho54 (Kd.R_lt (rW HO3))) (Kd.R_lt (rW HO6))) (Kd.R_lt (rW HO11))) (Kd.R_lt (rW HO14))) (Kd.R_lt (rW HO22))) (Kd.R_lt (rW HO25))) (Kd.R_lt (rW HO30))) (Kd.R_lt (rW HO33))) (Kd.R_lt (rW HO47))) (Kd.R_lt (rW HO52))) (Kd.R_lt (rW HO55))) (Kd.R_lt (rW HO63))) (below_size (hbW HB))); have n14_ := bkB BK19 hb; have n15_ := bkB BK38 hb; have n16_ := bkB BK60 hb; have n17_ := hbS HB hb; clear HO3; clear HO6; clear HO11; clear HO14; clear HO22; clear HO25; clear HO30; clear HO33; clear HO44; clear HO47; clear HO52; clear HO55; clear HO63; clear BK19; clear BK38; clear BK60; clear HB; have HO3 := n0_; have HO6 := n1_; have HO11 := n2_; have HO14 := n3_; have HO22 := n4_; have HO25 := n5_; have HO30 := n6_; have HO33 := n7_; have HO44 := n8_; have HO47 := n9_; have HO52 := n10_; have HO55 := n11_; have HO63 := n12_; have HO67 := n13_; have BK19 := n14_; have BK38 := n15_; have BK60 := n16_; have HB := n17_; clear n0_ n1_ n2_ n3_ n4_ n5_ n6_ n7_ n8_ n9_ n10_ n11_ n12_ n13_ n14_ n15_ n16_ n17_; clear hb ho54; obtain ⟨Ao55, co55, eo55⟩ := Kd.R_slice HO67.out; subst eo55) | (go_at_call 20; (with_reducible refine (q22z.calls k _ _ t31 _ _ y65 true _ ?side1 ?side2 ?side3 ?side4 A6.out).mono ?_); (case side1 => repeat (first | exact (Kd.R_reads' HO33.out).2.2 | (with_reducible refine Kd.C_alloc ?_ _) | (with_reducible refine Kd.C_drewN ?_ _) | (with_reducible refine Kd.C_drew ?_))); (case side2 => exact (Kd.R_reads' HO33.out).2.1); (case side3 => repeat (first | exact (Kd.R_reads' HO67.out).2.2 | (with_reducible refine Kd.C_alloc ?_ _) | (with_reducible refine Kd.C_drewN ?_ _) | (with_reducible refine Kd.C_drew ?_))); (case side4 => exact (Kd.R_reads' HO67.out).2.1); rintro e w' ⟨rfl, ⟨nd, rfl⟩⟩; have hcz56_0 : w53.cell? ⟨gb60, 0, none⟩ = some (.int .u32 t48) := (blk_cell BK60.out 0).trans rfl; have hcz56_1 : w53.cell? ⟨gb60, 1, none⟩ = some (.int .i64 t49) := (blk_cell BK60.out 1).trans rfl; have hcz56_2 : w53.cell? ⟨gb60, 2, none⟩ = some (.slice Ao46 t50.length co46) := (blk_cell BK60.out 2).trans rfl; have hcz56_3 : w53.cell? ⟨gb60, 3, none⟩ = some (.slice Ao47 t53.length co47) := (blk_cell BK60.out 3).trans rfl; have hcz56_4 : w53.cell? ⟨gb60, 4, none⟩ = some (.int .u32 t56) := (blk_cell BK60.out 4).trans rfl; have hcz56_5 : w53.cell? ⟨gb60, 5, none⟩ = some (.int .u32 t57) := (blk_cell BK60.out 5).trans rfl; have hcz56_6 : w53.cell? ⟨gb60, 6, none⟩ = some (.int .i64 t58) := (blk_cell BK60.out 6).trans rfl; have hcz56_7 : w53.cell? ⟨gb60, 7, none⟩ = some (.int .u32 t59) := (blk_cell BK60.out 7).trans rfl; have hfz56_0 := blk_frozen BK60.out 0; have hfz56_1 := blk_frozen BK60.out 1; have hfz56_2 := blk_frozen BK60.out 2; have hfz56_3 := blk_frozen BK60.out 3; have hfz56_4 := blk_frozen BK60.out 4; have hfz56_5 := blk_frozen BK60.out 5; have hfz56_6 := blk_frozen BK60.out 6; have hfz56_7 := blk_frozen BK60.out 7) | ((with_reducible refine gate_dst (N := 35) rfl ?_); (try (refine gate_guard (by rfl) ?_; dsimp only)); refine Kd.R_lit (Kd.int .u32) _ 22 ?hg (N := 35) ?hd (xs := ([458759] : List Int)) (inner := [.int .u32 458759]) (ok := fun _ => True) (okp := fun _ => True) ?hr ?hp (fun _ hk => hk) trivial (Below.refl _ _) (Nat.le_refl _) (by simp) ?_; (case hd => rfl); (case hg => rfl); (case hr => first | (go_simp; done) | (go_simp; rfl)); (case hp => exact (Reps.one (show Kd.M (Kd.int .u32) _ _ _ 458759 [.int .u32 458759] from rfl) (Reps.none _ _))); intro v70 w57 ho58 hb hg_ hnew_; clear hg_ hnew_; (first | rw [← Ny69.out] at ho58 | (simp only [Int.reduceToNat] at ho58; rw [← Ny69.out] at ho58)); have n0_ := Aside0.mk (Kd.R_elder' (rW HO3) (Kd.R_base ho58) hb); have n1_ := Aside0.mk (Kd.R_elder' (rW HO6) (Kd.R_base ho58) hb); have n2_ := Aside0.mk (Kd.R_elder' (rW HO11) (Kd.R_base ho58) hb); have n3_ := Aside0.mk (Kd.R_elder' (rW HO14) (Kd.R_base ho58) hb); have n4_ := Aside0.mk (Kd.R_elder' (rW HO22) (Kd.R_base ho58) hb); have n5_ := Aside0.mk (Kd.R_elder' (rW HO25) (Kd.R_base ho58) hb); have n6_ := Aside0.mk (Kd.R_elder' (rW HO30) (Kd.R_base ho58) hb); have n7_ := Aside0.mk (Kd.R_elder' (rW HO33) (Kd.R_base ho58) hb); have n8_ := Aside0.mk (Kd.N_elder' (by (with_reducible repeat (first | apply Kd.N_alloc | apply Kd.N_drewN | apply Kd.N_drew)); exact HO44.out) (Kd.R_base ho58) hb); have n9_ := Aside0.mk (Kd.R_elder' (rW HO47) (Kd.R_base ho58) hb); have n10_ := Aside0.mk (Kd.R_elder' (rW HO52) (Kd.R_base ho58) hb); have n11_ := Aside0.mk (Kd.R_elder' (rW HO55) (Kd.R_base ho58) hb); have n12_ := Aside0.mk (Kd.R_elder' (rW HO63) (Kd.R_base ho58) hb); have n13_ := Aside0.mk (Kd.R_elder' (rW HO67) (Kd.R_base ho58) hb); have n14_ := Aside0.mk (Kd.R_lower (Kd.R_new' (Kd.R_new' (Kd.R_new' (Kd.R_new' (Kd.R_new' (Kd.R_new' (Kd.R_new' (Kd.R_new' (Kd.R_new' (Kd.R_new' (Kd.R_new' (Kd.R_new' (Kd.R_new' ho58 (Kd.R_lt (rW HO3))) (Kd.R_lt (rW HO6))) (Kd.R_lt (rW HO11))) (Kd.R_lt (rW HO14))) (Kd.R_lt (rW HO22))) (Kd.R_lt (rW HO25))) (Kd.R_lt (rW HO30))) (Kd.R_lt (rW HO33))) (Kd.R_lt (rW HO47))) (Kd.R_lt (rW HO52))) (Kd.R_lt (rW HO55))) (Kd.R_lt (rW HO63))) (Kd.R_lt (rW HO67))) (below_size (hbW HB))); have n15_ := bkB BK19 hb; have n16_ := bkB BK38 hb; have n17_ := bkB BK60 hb; have n18_ := hbS HB hb; clear HO3; clear HO6; clear HO11; clear HO14; clear HO22; clear HO25; clear HO30; clear HO33; clear HO44; clear HO47; clear HO52; clear HO55; clear HO63; clear HO67; clear BK19; clear BK38; clear BK60; clear HB; have HO3 := n0_; have HO6 := n1_; have HO11 := n2_; have HO14 := n3_; have HO22 := n4_; have HO25 := n5_; have HO30 := n6_; have HO33 := n7_; have HO44 := n8_; have HO47 := n9_; have HO52 := n10_; have HO55 := n11_; have HO63 := n12_; have HO67 := n13_; have HO71 := n14_; have BK19 := n15_; have BK38 := n16_; have BK60 := n17_; have HB := n18_; clear n0_ n1_ n2_ n3_ n4_ n5_ n6_ n7_ n8_ n9_ n10_ n11_ n12_ n13_ n14_ n15_ n16_ n17_ n18_; clear hb ho58; obtain ⟨Ao59, co59, eo59⟩ := Kd.R_slice HO71.out; subst eo59) | (go_at_call 20; (with_reducible refine (q22z.calls k _ _ t53 _ _ y69 t72 _ ?side1 ?side2 ?side3 ?side4 A8.out).mono ?_); (case side1 => repeat (first | exact (Kd.R_reads' HO55.out).2.2 | (with_reducible refine Kd.C_alloc ?_ _) | (with_reducible refine Kd.C_drewN ?_ _) | (with_reducible refine Kd.C_drew ?_))); (case side2 => exact (Kd.R_reads' HO55.out).2.1); (case side3 => repeat (first | exact (Kd.R_reads' HO71.out).2.2 | (with_reducible refine Kd.C_alloc ?_ _) | (with_reducible refine Kd.C_drewN ?_ _) | (with_reducible refine Kd.C_drew ?_))); (case side4 => exact (Kd.R_reads' HO71.out).2.1); rintro e w' ⟨rfl, ⟨nd, rfl⟩⟩))
   go_ret
   exact ⟨by first | rfl | (simp [errW_none, errW_some] <;> rfl) | (simp [*, errW_none, errW_some] <;> rfl), hbW HB⟩
  ·
   replace c7 := Bool.eq_false_iff.mpr c7
   subst c7
   have H1 : (some false) = some r := by rw [if_neg (show ¬ (false = true) by decide)] at H; exact H
   clear H
   have H := H1
   clear H1
   obtain rfl := Option.some.inj H
   go_wp2_with (first | ((with_reducible refine gate_dst (N := 24) rfl ?_); (try (refine gate_guard (by rfl) ?_; dsimp only)); refine Kd.R_lit (Kd.int .u32) _ 22 ?hg (N := 24) ?hd (xs := ([1, 2, 3] : List Int)) (inner := [.int .u32 1, .int .u32 2, .int .u32 3]) (ok := fun _ => True) (okp := fun _ => True) ?hr ?hp (fun _ hk => hk) trivial (Below.refl _ _) (Nat.le_refl _) (by simp) ?_; (case hd => rfl); (case hg => rfl); (case hr => first | (go_simp; done) | (go_simp; rfl)); (case hp => exact (Reps.one (show Kd.M (Kd.int .u32) _ _ _ 1 [.int .u32 1] from rfl) (Reps.one (show Kd.M (Kd.int .u32) _ _ _ 2 [.int .u32 2] from rfl) (Reps.one (show Kd.M (Kd.int .u32) _ _ _ 3 [.int .u32 3] from rfl) (Reps.none _ _))))); intro v62 w100 ho101 hb hg_ hnew_; clear hg_ hnew_; (first | rw [← Ny61.out] at ho101 | (simp only [Int.reduceToNat] at ho101; rw [← Ny61.out] at ho101)); have n0_ := Aside0.mk (Kd.R_elder' (rW HO3) (Kd.R_base ho101) hb); have n1_ := Aside0.mk (Kd.R_elder' (rW HO6) (Kd.R_base ho101) hb); have n2_ := Aside0.mk (Kd.R_elder' (rW HO11) (Kd.R_base ho101) hb); have n3_ := Aside0.mk (Kd.R_elder' (rW HO14) (Kd.R_base ho101) hb); have n4_ := Aside0.mk (Kd.R_elder' (rW HO22) (Kd.R_base ho101) hb); have n5_ := Aside0.mk (Kd.R_elder' (rW HO25) (Kd.R_base ho101) hb); have n6_ := Aside0.mk (Kd.R_elder' (rW HO30) (Kd.R_base ho101) hb); have n7_ := Aside0.mk (Kd.R_elder' (rW HO33) (Kd.R_base ho101) hb); have n8_ := Aside0.mk (Kd.N_elder' (by (with_reducible repeat (first | apply Kd.N_alloc | apply Kd.N_drewN | apply Kd.N_drew)); exact (Kd.N_mono (Kd.N_far (p := ⟨gb60, 7, none⟩) (Kd.N_far (p := ⟨gb60, 6, none⟩) (Kd.N_far (p := ⟨gb60, 5, none⟩) (Kd.N_far (p := ⟨gb60, 4, none⟩) (Kd.N_far (p := ⟨gb60, 3, none⟩) (Kd.N_far (p := ⟨gb60, 2, none⟩) (Kd.N_far (p := ⟨gb60, 1, none⟩) (Kd.N_far (p := ⟨gb60, 0, none⟩) (Kd.N_mono HO44.out (fun k_ hk => (⟨hk, hk.2⟩ : _ ∧ k_ ≠ gb60))) (fun _ hk => hk.2) (.int .u32 t48)) (fun _ hk => hk.2) (.int .i64 t49)) (fun _ hk => hk.2) (.slice Ao46 t50.length co46)) (fun _ hk => hk.2) (.slice Ao47 t53.length co47)) (fun _ hk => hk.2) (.int .u32 t56)) (fun _ hk => hk.2) (.int .u32 t57)) (fun _ hk => hk.2) (.int .i64 t58)) (fun _ hk => hk.2) (.int .u32 t59)) (fun _ h_ => h_.1))) (Kd.R_base ho101) hb); have n9_ := Aside0.mk (Kd.R_elder' (rW HO47) (Kd.R_base ho101) hb); have n10_ := Aside0.mk (Kd.R_elder' (rW HO52) (Kd.R_base ho101) hb); have n11_ := Aside0.mk (Kd.R_elder' (rW HO55) (Kd.R_base ho101) hb); have n12_ := Aside0.mk (Kd.R_lower (Kd.R_new' (Kd.R_new' (Kd.R_new' (Kd.R_new' (Kd.R_new' (Kd.R_new' (Kd.R_new' (Kd.R_new' (Kd.R_new' (Kd.R_new' (Kd.R_new' ho101 (Kd.R_lt (rW HO3))) (Kd.R_lt (rW HO6))) (Kd.R_lt (rW HO11))) (Kd.R_lt (rW HO14))) (Kd.R_lt (rW HO22))) (Kd.R_lt (rW HO25))) (Kd.R_lt (rW HO30))) (Kd.R_lt (rW HO33))) (Kd.R_lt (rW HO47))) (Kd.R_lt (rW HO52))) (Kd.R_lt (rW HO55))) (below_size (hbW HB))); have n13_ := Aside0.mk (blk_below (g := gb19) (o := .cells #[.int .u32 t7, .int .i64 t8, .slice Ao18 t9.length co18, .slice Ao19 t12.length co19, .int .u32 t15, .int .u32 t16, .int .i64 t17, .int .u32 t18] 30 (0, 0)) (by (with_reducible repeat (first | refine blk_drewN ?_ _ | refine blk_drew ?_ | refine blk_alloc ?_ _)); refine blk_far ?_ NB19_60.out _; (with_reducible repeat (first | refine blk_drewN ?_ _ | refine blk_drew ?_ | refine blk_alloc ?_ _)); refine blk_far ?_ NB19_60.out _; (with_reducible repeat (first | refine blk_drewN ?_ _ | refine blk_drew ?_ | refine blk_alloc ?_ _)); refine blk_far ?_ NB19_60.out _; (with_reducible repeat (first | refine blk_drewN ?_ _ | refine blk_drew ?_ | refine blk_alloc ?_ _)); refine blk_far ?_ NB19_60.out _; (with_reducible repeat (first | refine blk_drewN ?_ _ | refine blk_drew ?_ | refine blk_alloc ?_ _)); refine blk_far ?_ NB19_60.out _; (with_reducible repeat (first | refine blk_drewN ?_ _ | refine blk_drew ?_ | refine blk_alloc ?_ _)); refine blk_far ?_ NB19_60.out _; (with_reducible repeat (first | refine blk_drewN ?_ _ | refine blk_drew ?_ | refine blk_alloc ?_ _)); refine blk_far ?_ NB19_60.out _; (with_reducible repeat (first | refine blk_drewN ?_ _ | refine blk_drew ?_ | refine blk_alloc ?_ _)); refine blk_far ?_ NB19_60.out _; (with_reducible repeat (first | refine blk_drewN ?_ _ | refine blk_drew ?_ | refine blk_alloc ?_ _)); exact BK19.out) hb); have n14_ := Aside0.mk (blk_below (g := gb38) (o := .cells #[.int .u32 t26, .int .i64 t27, .slice Ao30 t28.length co30, .slice Ao31 t31.length co31, .int .u32 t34, .int .u32 t35, .int .i64 t36, .int .u32 t37] 30 (0, 0)) (by (with_reducible repeat (first | refine blk_drewN ?_ _ | refine blk_drew ?_ | refine blk_alloc ?_ _)); refine blk_far ?_ NB38_60.out _; (with_reducible repeat (first | refine blk_drewN ?_ _ | refine blk_drew ?_ | refine blk_alloc ?_ _)); refine blk_far ?_ NB38_60.out _; (with_reducible repeat (first | refine blk_drewN ?_ _ | refine blk_drew ?_ | refine blk_alloc ?_ _)); refine blk_far ?_ NB38_60.out _; (with_reducible repeat (first | refine blk_drewN ?_ _ | refine blk_drew ?_ | refine blk_alloc ?_ _)); refine blk_far ?_ NB38_60.out _; (with_reducible repeat (first | refine blk_drewN ?_ _ | refine blk_drew ?_ | refine blk_alloc ?_ _)); refine blk_far ?_ NB38_60.out _; (with_reducible repeat (first | refine blk_drewN ?_ _ | refine blk_drew ?_ | refine blk_alloc ?_ _)); refine blk_far ?_ NB38_60.out _; (with_reducible repeat (first | refine blk_drewN ?_ _ | refine blk_drew ?_ | refine blk_alloc ?_ _)); refine blk_far ?_ NB38_60.out _; (with_reducible repeat (first | refine blk_drewN ?_ _ | refine blk_drew ?_ | refine blk_alloc ?_ _)); refine blk_far ?_ NB38_60.out _; (with_reducible repeat (first | refine blk_drewN ?_ _ | refine blk_drew ?_ | refine blk_alloc ?_ _)); exact BK38.out) hb); have n15_ := Aside0.mk (blk_below (g := gb60) (o := .cells #[.int .u32 t48, .int .i64 t49, .slice Ao46 t50.length co46, .slice Ao47 t53.length co47, .int .u32 t56, .int .u32 t57, .int .i64 t58, .int .u32 t59] 30 (0, 0)) (bp8 BK60) hb); have n16_ := hbS HB hb; clear HO3; clear HO6; clear HO11; clear HO14; clear HO22; clear HO25; clear HO30; clear HO33; clear HO44; clear HO47; clear HO52; clear HO55; clear BK19; clear BK38; clear BK60; clear HB; have HO3 := n0_; have HO6 := n1_; have HO11 := n2_; have HO14 := n3_; have HO22 := n4_; have HO25 := n5_; have HO30 := n6_; have HO33 := n7_; have HO44 := n8_; have HO47 := n9_; have HO52 := n10_; have HO55 := n11_; have HO63 := n12_; have BK19 := n13_; have BK38 := n14_; have BK60 := n15_; have HB := n16_; clear n0_ n1_ n2_ n3_ n4_ n5_ n6_ n7_ n8_ n9_ n10_ n11_ n12_ n13_ n14_ n15_ n16_; clear hb ho101; obtain ⟨Ao102, co102, eo102⟩ := Kd.R_slice HO63.out; subst eo102) | ((with_reducible refine gate_callee (f := 20) rfl ?_); refine goesL_ (some 25) rfl rfl Try.func20 (by kernel_rfl) rfl #[.slice Ao18 t9.length co18, .slice Ao102 y61.length co102] rfl (by (try simp only [List.map_toArray, List.map_cons, List.map_nil]); first | done | rfl | (simp only [List.length_drop, List.length_take]; rfl)) ?_; (with_reducible refine (q22z.calls k _ _ t9 _ _ y61 true _ ?side1 ?side2 ?side3 ?side4 A4.out).mono ?_); (case side1 => repeat (first | exact (Kd.R_reads' HO11.out).2.2 | (with_reducible refine Kd.C_alloc ?_ _) | (with_reducible refine Kd.C_drewN ?_ _) | (with_reducible refine Kd.C_drew ?_))); (case side2 => exact (Kd.R_reads' HO11.out).2.1); (case side3 => repeat (first | exact (Kd.R_reads' HO63.out).2.2 | (with_reducible refine Kd.C_alloc ?_ _) | (with_reducible refine Kd.C_drewN ?_ _) | (with_reducible refine Kd.C_drew ?_))); (case side4 => exact (Kd.R_reads' HO63.out).2.1); rintro e w' ⟨rfl, ⟨nd, rfl⟩⟩; refine ⟨_, rfl, ?_⟩; have hcz103_0 : w100.cell? ⟨gb38, 0, none⟩ = some (.int .u32 t26) := (blk_cell BK38.out 0).trans rfl; have hcz103_1 : w100.cell? ⟨gb38, 1, none⟩ = some (.int .i64 t27) := (blk_cell BK38.out 1).trans rfl; have hcz103_2 : w100.cell? ⟨gb38, 2, none⟩ = some (.slice Ao30 t28.length co30) := (blk_cell BK38.out 2).trans rfl; have hcz103_3 : w100.cell? ⟨gb38, 3, none⟩ = some (.slice Ao31 t31.length co31) := (blk_cell BK38.out 3).trans rfl; have hcz103_4 : w100.cell? ⟨gb38, 4, none⟩ = some (.int .u32 t34) := (blk_cell BK38.out 4).trans rfl; have hcz103_5 : w100.cell? ⟨gb38, 5, none⟩ = some (.int .u32 t35) := (blk_cell BK38.out 5).trans rfl; have hcz103_6 : w100.cell? ⟨gb38, 6, none⟩ = some (.int .i64 t36) := (blk_cell BK38.out 6).trans rfl; have hcz103_7 : w100.cell? ⟨gb38, 7, none⟩ = some (.int .u32 t37) := (blk_cell BK38.out 7).trans rfl; have hfz103_0 := blk_frozen BK38.out 0; have hfz103_1 := blk_frozen BK38.out 1; have hfz103_2 := blk_frozen BK38.out 2; have hfz103_3 := blk_frozen BK38.out 3; have hfz103_4 := blk_frozen BK38.out 4; have hfz103_5 := blk_frozen BK38.out 5; have hfz103_6 := blk_frozen BK38.out 6; have hfz103_7 := blk_frozen BK38.out 7) | ((with_reducible refine gate_dst (N := 29) rfl ?_); (try (refine gate_guard (by rfl) ?_; dsimp only)); refine Kd.R_lit (Kd.int .u32) _ 22 ?hg (N := 29) ?hd (xs := ([3, 4, 5] : List Int)) (inner := [.int .u32 3, .int .u32 4, .int .u32 5]) (ok := fun _ => True) (okp := fun _ => True) ?hr ?hp (fun _ hk => hk) trivial (Below.refl _ _) (Nat.le_refl _) (by simp) ?_; (case hd => rfl); (case hg => rfl); (case hr => first | (go_simp; done) | (go_simp; rfl)); (case hp => exact (Reps.one (show Kd.M (Kd.int .u32) _ _ _ 3 [.int .u32 3] from rfl) (Reps.one (show Kd.M (Kd.int .u32) _ _ _ 4 [.int .u32 4] from rfl) (Reps.one (show Kd.M (Kd.int .u32) _ _ _ 5 [.int .u32 5] from rfl) (Reps.none _ _))))); intro v66 w104 ho105 hb hg_ hnew_; clear hg_ hnew_; (first | rw [← Ny65.out] at ho105 | (simp only [Int.reduceToNat] at ho105; rw [← Ny65.out] at ho105)); have n0_ := Aside0.mk (Kd.R_elder' (rW HO3) (Kd.R_base ho105) hb); have n1_ := Aside0.mk (Kd.R_elder' (rW HO6) (Kd.R_base ho105) hb); have n2_ := Aside0.mk (Kd.R_elder' (rW HO11) (Kd.R_base ho105) hb); have n3_ := Aside0.mk (Kd.R_elder' (rW HO14) (Kd.R_base ho105) hb); have n4_ := Aside0.mk (Kd.R_elder' (rW HO22) (Kd.R_base ho105) hb); have n5_ := Aside0.mk (Kd.R_elder' (rW HO25) (Kd.R_base ho105) hb); have n6_ := Aside0.mk (Kd.R_elder' (rW HO30) (Kd.R_base ho105) hb); have n7_ := Aside0.mk (Kd.R_elder' (rW HO33) (Kd.R_base ho105) hb); have n8_ := Aside0.mk (Kd.N_elder' (by (with_reducible repeat (first | apply Kd.N_alloc | apply Kd.N_drewN | apply Kd.N_drew)); exact HO44.out) (Kd.R_base ho105) hb); have n9_ := Aside0.mk (Kd.R_elder' (rW HO47) (Kd.R_base ho105) hb); have n10_ := Aside0.mk (Kd.R_elder' (rW HO52) (Kd.R_base ho105) hb); have n11_ := Aside0.mk (Kd.R_elder' (rW HO55) (Kd.R_base ho105) hb); have n12_ := Aside0.mk (Kd.R_elder' (rW HO63) (Kd.R_base ho105) hb); have n13_ := Aside0.mk (Kd.R_lower (Kd.R_new' (Kd.R_new' (Kd.R_new' (Kd.R_new' (Kd.R_new' (Kd.R_new' (Kd.R_new' (Kd.R_new' (Kd.R_new' (Kd.R_new' (Kd.R_new' (Kd.R_new' ho105 (Kd.R_lt (rW HO3))) (Kd.R_lt (rW HO6))) (Kd.R_lt (rW HO11))) (Kd.R_lt (rW HO14))) (Kd.R_lt (rW HO22))) (Kd.R_lt (rW HO25))) (Kd.R_lt (rW HO30))) (Kd.R_lt (rW HO33))) (Kd.R_lt (rW HO47))) (Kd.R_lt (rW HO52))) (Kd.R_lt (rW HO55))) (Kd.R_lt (rW HO63))) (below_size (hbW HB))); have n14_ := bkB BK19 hb; have n15_ := bkB BK38 hb; have n16_ := bkB BK60 hb; have n17_ := hbS HB hb; clear HO3; clear HO6; clear HO11; clear HO14; clear HO22; clear HO25; clear HO30; clear HO33; clear HO44; clear HO47; clear HO52; clear HO55; clear HO63; clear BK19; clear BK38; clear BK60; clear HB; have HO3 := n0_; have HO6 := n1_; have HO11 := n2_; have HO14 := n3_; have HO22 := n4_; have HO25 := n5_; have HO30 := n6_; have HO33 := n7_; have HO44 := n8_; have HO47 := n9_; have HO52 := n10_; have HO55 := n11_; have HO63 := n12_; have HO67 := n13_; have BK19 := n14_; have BK38 := n15_; have BK60 := n16_; have HB := n17_; clear n0_ n1_ n2_ n3_ n4_ n5_ n6_ n7_ n8_ n9_ n10_ n11_ n12_ n13_ n14_ n15_ n16_ n17_; clear hb ho105; obtain ⟨Ao106, co106, eo106⟩ := Kd.R_slice HO67.out; subst eo106) | (go_at_call 20; (with_reducible refine (q22z.calls k _ _ t31 _ _ y65 false _ ?side1 ?side2 ?side3 ?side4 A6.out).mono ?_); (case side1 => repeat (first | exact (Kd.R_reads' HO33.out).2.2 | (with_reducible refine Kd.C_alloc ?_ _) | (with_reducible refine Kd.C_drewN ?_ _) | (with_reducible refine Kd.C_drew ?_))); (case side2 => exact (Kd.R_reads' HO33.out).2.1); (case side3 => repeat (first | exact (Kd.R_reads' HO67.out).2.2 | (with_reducible refine Kd.C_alloc ?_ _) | (with_reducible refine Kd.C_drewN ?_ _) | (with_reducible refine Kd.C_drew ?_))); (case side4 => exact (Kd.R_reads' HO67.out).2.1); rintro e w' ⟨rfl, ⟨nd, rfl⟩⟩))
   go_ret
   exact ⟨by first | rfl | (simp [errW_none, errW_some] <;> rfl) | (simp [*, errW_none, errW_some] <;> rfl), hbW HB⟩
 ·
  replace c5 := Bool.eq_false_iff.mpr c5
  subst c5
  have H1 : (some false) = some r := by rw [if_neg (show ¬ (false = true) by decide)] at H; exact H
  clear H
  have H := H1
  clear H1
  obtain rfl := Option.some.inj H
  go_wp2_with (first | ((with_reducible refine gate_dst (N := 24) rfl ?_); (try (refine gate_guard (by rfl) ?_; dsimp only)); refine Kd.R_lit (Kd.int .u32) _ 22 ?hg (N := 24) ?hd (xs := ([1, 2, 3] : List Int)) (inner := [.int .u32 1, .int .u32 2, .int .u32 3]) (ok := fun _ => True) (okp := fun _ => True) ?hr ?hp (fun _ hk => hk) trivial (Below.refl _ _) (Nat.le_refl _) (by simp) ?_; (case hd => rfl); (case hg => rfl); (case hr => first | (go_simp; done) | (go_simp; rfl)); (case hp => exact (Reps.one (show Kd.M (Kd.int .u32) _ _ _ 1 [.int .u32 1] from rfl) (Reps.one (show Kd.M (Kd.int .u32) _ _ _ 2 [.int .u32 2] from rfl) (Reps.one (show Kd.M (Kd.int .u32) _ _ _ 3 [.int .u32 3] from rfl) (Reps.none _ _))))); intro v62 w147 ho148 hb hg_ hnew_; clear hg_ hnew_; (first | rw [← Ny61.out] at ho148 | (simp only [Int.reduceToNat] at ho148; rw [← Ny61.out] at ho148)); have n0_ := Aside0.mk (Kd.R_elder' (rW HO3) (Kd.R_base ho148) hb); have n1_ := Aside0.mk (Kd.R_elder' (rW HO6) (Kd.R_base ho148) hb); have n2_ := Aside0.mk (Kd.R_elder' (rW HO11) (Kd.R_base ho148) hb); have n3_ := Aside0.mk (Kd.R_elder' (rW HO14) (Kd.R_base ho148) hb); have n4_ := Aside0.mk (Kd.R_elder' (rW HO22) (Kd.R_base ho148) hb); have n5_ := Aside0.mk (Kd.R_elder' (rW HO25) (Kd.R_base ho148) hb); have n6_ := Aside0.mk (Kd.R_elder' (rW HO30) (Kd.R_base ho148) hb); have n7_ := Aside0.mk (Kd.R_elder' (rW HO33) (Kd.R_base ho148) hb); have n8_ := Aside0.mk (Kd.N_elder' (by (with_reducible repeat (first | apply Kd.N_alloc | apply Kd.N_drewN | apply Kd.N_drew)); exact (Kd.N_mono (Kd.N_far (p := ⟨gb60, 7, none⟩) (Kd.N_far (p := ⟨gb60, 6, none⟩) (Kd.N_far (p := ⟨gb60, 5, none⟩) (Kd.N_far (p := ⟨gb60, 4, none⟩) (Kd.N_far (p := ⟨gb60, 3, none⟩) (Kd.N_far (p := ⟨gb60, 2, none⟩) (Kd.N_far (p := ⟨gb60, 1, none⟩) (Kd.N_far (p := ⟨gb60, 0, none⟩) (Kd.N_mono HO44.out (fun k_ hk => (⟨hk, hk.2⟩ : _ ∧ k_ ≠ gb60))) (fun _ hk => hk.2) (.int .u32 t48)) (fun _ hk => hk.2) (.int .i64 t49)) (fun _ hk => hk.2) (.slice Ao46 t50.length co46)) (fun _ hk => hk.2) (.slice Ao47 t53.length co47)) (fun _ hk => hk.2) (.int .u32 t56)) (fun _ hk => hk.2) (.int .u32 t57)) (fun _ hk => hk.2) (.int .i64 t58)) (fun _ hk => hk.2) (.int .u32 t59)) (fun _ h_ => h_.1))) (Kd.R_base ho148) hb); have n9_ := Aside0.mk (Kd.R_elder' (rW HO47) (Kd.R_base ho148) hb); have n10_ := Aside0.mk (Kd.R_elder' (rW HO52) (Kd.R_base ho148) hb); have n11_ := Aside0.mk (Kd.R_elder' (rW HO55) (Kd.R_base ho148) hb); have n12_ := Aside0.mk (Kd.R_lower (Kd.R_new' (Kd.R_new' (Kd.R_new' (Kd.R_new' (Kd.R_new' (Kd.R_new' (Kd.R_new' (Kd.R_new' (Kd.R_new' (Kd.R_new' (Kd.R_new' ho148 (Kd.R_lt (rW HO3))) (Kd.R_lt (rW HO6))) (Kd.R_lt (rW HO11))) (Kd.R_lt (rW HO14))) (Kd.R_lt (rW HO22))) (Kd.R_lt (rW HO25))) (Kd.R_lt (rW HO30))) (Kd.R_lt (rW HO33))) (Kd.R_lt (rW HO47))) (Kd.R_lt (rW HO52))) (Kd.R_lt (rW HO55))) (below_size (hbW HB))); have n13_ := Aside0.mk (blk_below (g := gb19) (o := .cells #[.int .u32 t7, .int .i64 t8, .slice Ao18 t9.length co18, .slice Ao19 t12.length co19, .int .u32 t15, .int .u32 t16, .int .i64 t17, .int .u32 t18] 30 (0, 0)) (by (with_reducible repeat (first | refine blk_drewN ?_ _ | refine blk_drew ?_ | refine blk_alloc ?_ _)); refine blk_far ?_ NB19_60.out _; (with_reducible repeat (first | refine blk_drewN ?_ _ | refine blk_drew ?_ | refine blk_alloc ?_ _)); refine blk_far ?_ NB19_60.out _; (with_reducible repeat (first | refine blk_drewN ?_ _ | refine blk_drew ?_ | refine blk_alloc ?_ _)); refine blk_far ?_ NB19_60.out _; (with_reducible repeat (first | refine blk_drewN ?_ _ | refine blk_drew ?_ | refine blk_alloc ?_ _)); refine blk_far ?_ NB19_60.out _; (with_reducible repeat (first | refine blk_drewN ?_ _ | refine blk_drew ?_ | refine blk_alloc ?_ _)); refine blk_far ?_ NB19_60.out _; (with_reducible repeat (first | refine blk_drewN ?_ _ | refine blk_drew ?_ | refine blk_alloc ?_ _)); refine blk_far ?_ NB19_60.out _; (with_reducible repeat (first | refine blk_drewN ?_ _ | refine blk_drew ?_ | refine blk_alloc ?_ _)); refine blk_far ?_ NB19_60.out _; (with_reducible repeat (first | refine blk_drewN ?_ _ | refine blk_drew ?_ | refine blk_alloc ?_ _)); refine blk_far ?_ NB19_60.out _; (with_reducible repeat (first | refine blk_drewN ?_ _ | refine blk_drew ?_ | refine blk_alloc ?_ _)); exact BK19.out) hb); have n14_ := Aside0.mk (blk_below (g := gb38) (o := .cells #[.int .u32 t26, .int .i64 t27, .slice Ao30 t28.length co30, .slice Ao31 t31.length co31, .int .u32 t34, .int .u32 t35, .int .i64 t36, .int .u32 t37] 30 (0, 0)) (by (with_reducible repeat (first | refine blk_drewN ?_ _ | refine blk_drew ?_ | refine blk_alloc ?_ _)); refine blk_far ?_ NB38_60.out _; (with_reducible repeat (first | refine blk_drewN ?_ _ | refine blk_drew ?_ | refine blk_alloc ?_ _)); refine blk_far ?_ NB38_60.out _; (with_reducible repeat (first | refine blk_drewN ?_ _ | refine blk_drew ?_ | refine blk_alloc ?_ _)); refine blk_far ?_ NB38_60.out _; (with_reducible repeat (first | refine blk_drewN ?_ _ | refine blk_drew ?_ | refine blk_alloc ?_ _)); refine blk_far ?_ NB38_60.out _; (with_reducible repeat (first | refine blk_drewN ?_ _ | refine blk_drew ?_ | refine blk_alloc ?_ _)); refine blk_far ?_ NB38_60.out _; (with_reducible repeat (first | refine blk_drewN ?_ _ | refine blk_drew ?_ | refine blk_alloc ?_ _)); refine blk_far ?_ NB38_60.out _; (with_reducible repeat (first | refine blk_drewN ?_ _ | refine blk_drew ?_ | refine blk_alloc ?_ _)); refine blk_far ?_ NB38_60.out _; (with_reducible repeat (first | refine blk_drewN ?_ _ | refine blk_drew ?_ | refine blk_alloc ?_ _)); refine blk_far ?_ NB38_60.out _; (with_reducible repeat (first | refine blk_drewN ?_ _ | refine blk_drew ?_ | refine blk_alloc ?_ _)); exact BK38.out) hb); have n15_ := Aside0.mk (blk_below (g := gb60) (o := .cells #[.int .u32 t48, .int .i64 t49, .slice Ao46 t50.length co46, .slice Ao47 t53.length co47, .int .u32 t56, .int .u32 t57, .int .i64 t58, .int .u32 t59] 30 (0, 0)) (bp8 BK60) hb); have n16_ := hbS HB hb; clear HO3; clear HO6; clear HO11; clear HO14; clear HO22; clear HO25; clear HO30; clear HO33; clear HO44; clear HO47; clear HO52; clear HO55; clear BK19; clear BK38; clear BK60; clear HB; have HO3 := n0_; have HO6 := n1_; have HO11 := n2_; have HO14 := n3_; have HO22 := n4_; have HO25 := n5_; have HO30 := n6_; have HO33 := n7_; have HO44 := n8_; have HO47 := n9_; have HO52 := n10_; have HO55 := n11_; have HO63 := n12_; have BK19 := n13_; have BK38 := n14_; have BK60 := n15_; have HB := n16_; clear n0_ n1_ n2_ n3_ n4_ n5_ n6_ n7_ n8_ n9_ n10_ n11_ n12_ n13_ n14_ n15_ n16_; clear hb ho148; obtain ⟨Ao149, co149, eo149⟩ := Kd.R_slice HO63.out; subst eo149) | ((with_reducible refine gate_callee (f := 20) rfl ?_); refine goesL_ (some 25) rfl rfl Try.func20 (by kernel_rfl) rfl #[.slice Ao18 t9.length co18, .slice Ao149 y61.length co149] rfl (by (try simp only [List.map_toArray, List.map_cons, List.map_nil]); first | done | rfl | (simp only [List.length_drop, List.length_take]; rfl)) ?_; (with_reducible refine (q22z.calls k _ _ t9 _ _ y61 false _ ?side1 ?side2 ?side3 ?side4 A4.out).mono ?_); (case side1 => repeat (first | exact (Kd.R_reads' HO11.out).2.2 | (with_reducible refine Kd.C_alloc ?_ _) | (with_reducible refine Kd.C_drewN ?_ _) | (with_reducible refine Kd.C_drew ?_))); (case side2 => exact (Kd.R_reads' HO11.out).2.1); (case side3 => repeat (first | exact (Kd.R_reads' HO63.out).2.2 | (with_reducible refine Kd.C_alloc ?_ _) | (with_reducible refine Kd.C_drewN ?_ _) | (with_reducible refine Kd.C_drew ?_))); (case side4 => exact (Kd.R_reads' HO63.out).2.1); rintro e w' ⟨rfl, ⟨nd, rfl⟩⟩; refine ⟨_, rfl, ?_⟩))
  go_ret
  exact ⟨by first | rfl | (simp [errW_none, errW_some] <;> rfl) | (simp [*, errW_none, errW_some] <;> rfl), hbW HB⟩

end Go.Proofs.Ytgelpccjdndfoaa.P

namespace Go.Proofs.Ytgelpccjdndfoaa.P
open Go.RowKit Go.Proofs.YtgelpccjdndfoaaW.PrintWords Go.Proofs.YtgelpccjdndfoaaW.PrintLast Go.Proofs.YtgelpccjdndfoaaW.PrintMore
attribute [local go_sem] max2_int min2_int max_two min_two max_three min_three max_four min_four
set_option linter.unusedVariables false
set_option linter.unusedSimpArgs false

/-! ### dragomanref05_Size: function 40 -/
mutual
def q24z.l0 : Nat → Int → Int → List (S74) → Int → Int → Option (Int × Int)
 | 0, _, _, _, _, _ => none
 | k + 1, x4, x5, x11, x12, x13 => if x13 < x12 then (if 0 ≤ x13 then (if x13 < (x11.length : Int) then ((q24z.f k ((rd_T74 x11 x13).f0) ((rd_T74 x11 x13).f1) ((rd_T74 x11 x13).f2)).bind fun bt4 => (q24z.l0 k (mn (wrap64 (x4 + bt4.1)) 1000000) (mx x5 bt4.2) x11 x12 (wrap64 (x13 + 1)))) else (none)) else (none)) else (some (x4, wrap64 (x5 + 1)))
def q24z.f : Nat → Int → List (S152) → List (S74) → Option (Int × Int)
 | 0, _, _, _ => none
 | k + 1, a0_0, l0_1, l0_2 => q24z.l0 k 1 0 l0_2 (l0_2.length : Int) 0
end
theorem q24z.mono_l : ∀ k, (∀ y0 y1 y2, LeO (q24z.f k y0 y1 y2) (q24z.f (k + 1) y0 y1 y2)) ∧ (∀ y0 y1 y2 y3 y4, LeO (q24z.l0 k y0 y1 y2 y3 y4) (q24z.l0 (k + 1) y0 y1 y2 y3 y4))
 | 0 => ⟨fun _ _ _ r h => by simp [q24z.f] at h, fun _ _ _ _ _ r h => by simp [q24z.l0] at h⟩
 | k + 1 => by
  obtain ⟨ih0, ih1⟩ := q24z.mono_l k
  refine ⟨?_, ?_⟩
  ·
   intro y0 y1 y2
   unfold q24z.f
   repeat' first
   | (with_reducible exact ih0 _ _ _)
   | (with_reducible exact ih1 _ _ _ _ _)
   | (with_reducible exact LeO.refl _)
   | (with_reducible exact LeO.none _)
   | (with_reducible refine LeO.ite ?_ ?_)
   | (with_reducible refine LeO.bind ?_ (fun _ => ?_))
   | exact ih0 _ _ _
   | exact ih1 _ _ _ _ _
   | exact LeO.none _
   | refine LeO.ite ?_ ?_
   | refine LeO.bind ?_ (fun _ => ?_)
  ·
   intro y0 y1 y2 y3 y4
   unfold q24z.l0
   repeat' first
   | (with_reducible exact ih0 _ _ _)
   | (with_reducible exact ih1 _ _ _ _ _)
   | (with_reducible exact LeO.refl _)
   | (with_reducible exact LeO.none _)
   | (with_reducible refine LeO.ite ?_ ?_)
   | (with_reducible refine LeO.bind ?_ (fun _ => ?_))
   | exact ih0 _ _ _
   | exact ih1 _ _ _ _ _
   | exact LeO.none _
   | refine LeO.ite ?_ ?_
   | refine LeO.bind ?_ (fun _ => ?_)
theorem q24z.mono : ∀ a0 a1 a2 k, LeO (q24z.f k a0 a1 a2) (q24z.f (k + 1) a0 a1 a2) := by
 intro a0 a1 a2 k
 obtain ⟨ih0, ih1⟩ := q24z.mono_l k
 exact ih0 a0 a1 a2
set_option maxHeartbeats 8000000 in
set_option maxRecDepth 100000 in
theorem q24z.calls (k : Nat) : ∀ (a0_0 : Int) (A0_1 : Option Addr) (c0_1 : Nat) (l0_1 : List (S152)) (A0_2 : Option Addr) (c0_2 : Nat) (l0_2 : List (S74)) (r1 : Int) (r2 : Int) (w : World) (hr0_1 : Kd.C k152 w A0_1 l0_1.length l0_1) (hc0_1 : l0_1.length ≤ c0_1) (hr0_2 : Kd.C k74 w A0_2 l0_2.length l0_2) (hc0_2 : l0_2.length ≤ c0_2) (h : q24z.f k a0_0 l0_1 l0_2 = some (r1, r2)),
  Calls Try.prog 40 #[.agg #[.int .i64 a0_0, .slice A0_1 l0_1.length c0_1, .slice A0_2 l0_2.length c0_2]] w fun e w' => e = .returned (.tuple #[.int .i64 r1, .int .i64 r2]) ∧ Below w.heap.size w w' := by
 induction k using Nat.strongRecOn with
 | _ k ih =>
 intro a0_0 A0_1 c0_1 l0_1 A0_2 c0_2 l0_2 r1 r2 w hr0_1 hc0_1 hr0_2 hc0_2 h
 cases k with
 | zero => exact absurd h (by simp [q24z.f])
 | succ k =>
 simp only [q24z.f] at h
 have hu74 := Try.underlying74
 have HR0_1 := Aside0.mk hr0_1
 have HC0_1 := Aside0.mk hc0_1
 clear hr0_1 hc0_1
 have HR0_2 := Aside0.mk hr0_2
 have HC0_2 := Aside0.mk hc0_2
 clear hr0_2 hc0_2
 have HB := Aside0.mk (Below.refl w.heap.size w)
 have H : (q24z.l0 k 1 0 l0_2 (l0_2.length : Int) 0) = some (r1, r2) := h
 clear h
 have H' := Aside0.mk H
 clear H
 go_enter Try.func40, Try.ntmps40
 go_wp2_with (first | ((with_reducible refine gate_dst (N := 1) rfl ?_); refine box_event ?hg (N := 1) ?hd (cs := #[.int .i64 a0_0, .slice A0_1 l0_1.length c0_1, .slice A0_2 l0_2.length c0_2]) (t := 74) ?hr ?_; (case hd => rfl); (case hg => rfl); (case hr => first | (go_simp; done) | (go_simp; rfl)); intro gb1 hg w2 hbox hb; have n0_ := hbS HB hb; have n1_ := Aside0.mk (hbox); have n2_ := Aside0.mk ((by rw [hg]; exact (below_size (hbW HB)) : w.heap.size ≤ gb1)); have n3_ := Aside0.mk ((by rw [hg]; exact (below_size (hbW HB)) : w.heap.size ≤ gb1)); clear HB; have HB := n0_; have BK1 := n1_; have GW1 := n2_; have GE1 := n3_; clear n0_ n1_ n2_ n3_; clear hb hbox hg; have hcz3_0 : w2.cell? ⟨gb1, 0, none⟩ = some (.int .i64 a0_0) := (blk_cell BK1.out 0).trans rfl; have hcz3_1 : w2.cell? ⟨gb1, 1, none⟩ = some (.slice A0_1 l0_1.length c0_1) := (blk_cell BK1.out 1).trans rfl; have hcz3_2 : w2.cell? ⟨gb1, 2, none⟩ = some (.slice A0_2 l0_2.length c0_2) := (blk_cell BK1.out 2).trans rfl; have hfz3_0 := blk_frozen BK1.out 0; have hfz3_1 := blk_frozen BK1.out 1; have hfz3_2 := blk_frozen BK1.out 2))
 go_loopg [4, 5, 13] k (fun kq v4 v5 v13 w' => ∃ (x4_1 : Int) (x5_1 : Int) (x13_1 : Int), v4 = .int .i64 x4_1 ∧ v5 = .int .i64 x5_1 ∧ v13 = .int .i64 x13_1 ∧ Aside0 (q24z.l0 kq x4_1 x5_1 l0_2 (l0_2.length : Int) x13_1 = some (r1, r2)) ∧ Aside0 (kq ≤ k) ∧ Aside0 (w'.heap[gb1]? = some (.cells #[.int .i64 a0_0, (.slice A0_1 l0_1.length c0_1), (.slice A0_2 l0_2.length c0_2)] 74 (0, 0))) ∧ Aside0 (Below w.heap.size w w'))
 case atStart => exact ⟨(1), (0), (0), (by first | rfl | (simp; done) | (simp [*]; done)), (by first | rfl | (simp; done) | (simp [*]; done)), (by first | rfl | (simp; done) | (simp [*]; done)), H', ⟨Nat.le_refl _⟩, ⟨by (with_reducible repeat (first | refine blk_drewN ?_ _ | refine blk_drew ?_ | refine blk_alloc ?_ _)); exact BK1.out⟩, ⟨hbW HB⟩⟩
 case round =>
  clear H'
  try clear p2
  try clear hcz3_0
  try clear hcz3_1
  try clear hcz3_2
  try clear hfz3_0
  try clear hfz3_1
  try clear hfz3_2
  obtain ⟨x4_1, x5_1, x13_1, rfl, rfl, rfl, HA, HK1, BK1, HB⟩ := hrel
  cases gk with
  | zero => exact absurd HA.out (by simp [q24z.l0])
  | succ k1 =>
   have H := HA.out
   clear HA
   simp only [q24z.l0] at H
   by_cases c4 : x13_1 < (l0_2.length : Int)
   ·
    rw [if_pos c4] at H
    have c4b0 : decide (x13_1 < (l0_2.length : Int)) = true := decide_eq_true c4
    clear c4
    by_cases c5 : 0 ≤ x13_1
    ·
     rw [if_pos c5] at H
     have c5b0 : decide (0 ≤ x13_1) = true := decide_eq_true c5
     clear c5
     by_cases c6 : x13_1 < (l0_2.length : Int)
     ·
      rw [if_pos c6] at H
      have c6b0 : decide (x13_1 < (l0_2.length : Int)) = true := decide_eq_true c6
      clear c6
      replace H := Option.bind_eq_some_iff.mp H
      obtain ⟨⟨t4, t5⟩, A70, H⟩ := H
      replace H : (q24z.l0 k1 (mn (wrap64 (x4_1 + t4)) 1000000) (mx x5_1 t5) l0_2 (l0_2.length : Int) (wrap64 (x13_1 + 1))) = some (r1, r2) := H
      have A7 := Aside0.mk A70
      clear A70
      obtain ⟨ji8, hji8⟩ : ∃ j_ : Int, (mn (wrap64 (x4_1 + t4)) 1000000) = j_ := ⟨_, rfl⟩
      replace H : (q24z.l0 k1 ji8 (mx x5_1 t5) l0_2 (l0_2.length : Int) (wrap64 (x13_1 + 1))) = some (r1, r2) := by first | (rw [hji8] at H; exact H) | (simp only [hji8] at H ⊢; exact H)
      (try rw [hji8] at A7)
      have hji8_ : (if 1000000 < (wrap64 (x4_1 + t4)) then 1000000 else (wrap64 (x4_1 + t4))) = ji8 := hji8
      obtain ⟨ji9, hji9⟩ : ∃ j_ : Int, (mx x5_1 t5) = j_ := ⟨_, rfl⟩
      replace H : (q24z.l0 k1 ji8 ji9 l0_2 (l0_2.length : Int) (wrap64 (x13_1 + 1))) = some (r1, r2) := by first | (rw [hji9] at H; exact H) | (simp only [hji9] at H ⊢; exact H)
      (try rw [hji9] at A7)
      have hji9_ : (if x5_1 < t5 then t5 else x5_1) = ji9 := hji9
      have H' := Aside0.mk H
      clear H
      have p2 : 0 ≤ (x13_1 : Int) := of_decide_eq_true (by first | (with_reducible assumption) | assumption)
      have q2 : x13_1 < (l0_2.length : Int) := of_decide_eq_true (by first | (with_reducible assumption) | assumption)
      obtain ⟨ad2, A2_1, c2_1, A2_2, c2_2, e2, hx2_0, hx2_1, hx2_2, hl2_1, hi2_1, hl2_2, hi2_2⟩ := at_T74 HR0_2.out x13_1 p2 q2
      cases e2
      replace hx2_0 := (HB.out.cell (World.block_lt_of_cell? w _ hx2_0)).trans hx2_0
      replace hx2_1 := (HB.out.cell (World.block_lt_of_cell? w _ hx2_1)).trans hx2_1
      replace hx2_2 := (HB.out.cell (World.block_lt_of_cell? w _ hx2_2)).trans hx2_2
      have HR2_1 := Aside0.mk hi2_1
      have HC2_1 := Aside0.mk hl2_1
      clear hi2_1 hl2_1
      have HR2_2 := Aside0.mk hi2_2
      have HC2_2 := Aside0.mk hl2_2
      clear hi2_2 hl2_2
      replace p2 := eq_true p2
      replace q2 := eq_true q2
      go_wp2_with (first | ((with_reducible refine gate_dst (N := 7) rfl ?_); refine box_event ?hg (N := 7) ?hd (cs := #[.int .i64 0, .slice none 0 0, .slice none 0 0]) (t := 74) ?hr ?_; (case hd => rfl); (case hg => rfl); (case hr => first | (go_simp; done) | (go_simp; rfl)); intro gb3 hg w10 hbox hb; have n0_ := bkB BK1 hb; have n1_ := hbS HB hb; have n2_ := Aside0.mk (hbox); have n3_ := Aside0.mk ((by rw [hg]; exact (below_size (hbW HB)) : w.heap.size ≤ gb3)); have n4_ := Aside0.mk ((by rw [hg]; exact (below_size (hbW HB)) : w.heap.size ≤ gb3)); have n5_ := Aside0.mk ((by rw [hg]; exact Nat.ne_of_lt (blk_lt (bkW BK1)) : gb1 ≠ gb3)); have n6_ := Aside0.mk ((by rw [hg]; exact Nat.ne_of_gt (blk_lt (bkW BK1)) : gb3 ≠ gb1)); clear BK1; clear HB; have BK1 := n0_; have HB := n1_; have BK3 := n2_; have GW3 := n3_; have GE3 := n4_; have NB1_3 := n5_; have NB3_1 := n6_; clear n0_ n1_ n2_ n3_ n4_ n5_ n6_; clear hb hbox hg; have hnb11 := NB3_1.out; have hnc11 := NB1_3.out; have hcz12_0 : w10.cell? ⟨gb3, 0, none⟩ = some (.int .i64 0) := (blk_cell BK3.out 0).trans rfl; have hcz12_1 : w10.cell? ⟨gb3, 1, none⟩ = some (.slice none 0 0) := (blk_cell BK3.out 1).trans rfl; have hcz12_2 : w10.cell? ⟨gb3, 2, none⟩ = some (.slice none 0 0) := (blk_cell BK3.out 2).trans rfl; have hfz12_0 := blk_frozen BK3.out 0; have hfz12_1 := blk_frozen BK3.out 1; have hfz12_2 := blk_frozen BK3.out 2) | ((with_reducible refine gate_callee (f := 40) rfl ?_); refine goesL_ (some 19) rfl rfl Try.func40 (by kernel_rfl) rfl #[.agg #[.int .i64 ((rd_T74 l0_2 x13_1).f0), .slice A2_1 ((rd_T74 l0_2 x13_1).f1).length c2_1, .slice A2_2 ((rd_T74 l0_2 x13_1).f2).length c2_2]] rfl (by (try simp only [List.map_toArray, List.map_cons, List.map_nil]); first | done | rfl | (simp only [List.length_drop, List.length_take]; rfl)) ?_; (with_reducible refine (ih k1 (by have := HK1.out; omega) ((rd_T74 l0_2 x13_1).f0) _ _ ((rd_T74 l0_2 x13_1).f1) _ _ ((rd_T74 l0_2 x13_1).f2) t4 t5 _ ?side1 ?side2 ?side3 ?side4 A7.out).mono ?_); (case side1 => exact Kd.C_below HR2_1.out (hbW HB)); (case side2 => exact HC2_1.out); (case side3 => exact Kd.C_below HR2_2.out (hbW HB)); (case side4 => exact HC2_2.out); rintro e w13 ⟨rfl, hb⟩; refine ⟨_, rfl, ?_⟩; have n0_ := Aside0.mk (blk_below (g := gb1) (o := .cells #[.int .i64 a0_0, .slice A0_1 l0_1.length c0_1, .slice (some ad2) l0_2.length c0_2] 74 (0, 0)) (by (with_reducible repeat (first | refine blk_drewN ?_ _ | refine blk_drew ?_ | refine blk_alloc ?_ _)); refine blk_far ?_ NB1_3.out _; (with_reducible repeat (first | refine blk_drewN ?_ _ | refine blk_drew ?_ | refine blk_alloc ?_ _)); refine blk_far ?_ NB1_3.out _; (with_reducible repeat (first | refine blk_drewN ?_ _ | refine blk_drew ?_ | refine blk_alloc ?_ _)); refine blk_far ?_ NB1_3.out _; (with_reducible repeat (first | refine blk_drewN ?_ _ | refine blk_drew ?_ | refine blk_alloc ?_ _)); exact BK1.out) hb); have n1_ := Aside0.mk (blk_below (g := gb3) (o := .cells #[.int .i64 ((rd_T74 l0_2 x13_1).f0), .slice A2_1 ((rd_T74 l0_2 x13_1).f1).length c2_1, .slice A2_2 ((rd_T74 l0_2 x13_1).f2).length c2_2] 74 (0, 0)) (bp3 BK3) hb); have n2_ := hbS HB hb; clear BK1; clear BK3; clear HB; have BK1 := n0_; have BK3 := n1_; have HB := n2_; clear n0_ n1_ n2_; (try clear hb); (try clear hb2); (try clear hk); (try clear hi)))
      go_roundg k1
      case measure => have := HK1.out; omega
      case rel => exact ⟨(ji8), (ji9), (wrap64 (x13_1 + 1)), (by first | rfl | (simp; done) | (simp only [← hji8] <;> (first | rfl | simp)) | (simp [*]; done)), (by first | rfl | (simp; done) | (simp only [← hji9] <;> (first | rfl | simp)) | (simp [*]; done)), (by first | rfl | (simp; done) | (simp [*]; done)), H', ⟨by have := HK1.out; omega⟩, ⟨by (with_reducible repeat (first | refine blk_drewN ?_ _ | refine blk_drew ?_ | refine blk_alloc ?_ _)); exact BK1.out⟩, ⟨hbW HB⟩⟩
     ·
      rw [if_neg c6] at H
      exact absurd H (by simp)
    ·
     rw [if_neg c5] at H
     exact absurd H (by simp)
   ·
    rw [if_neg c4] at H
    have c4b0 : decide (x13_1 < (l0_2.length : Int)) = false := decide_eq_false c4
    clear c4
    simp only [Option.some.injEq, Prod.mk.injEq] at H
    obtain ⟨rfl, rfl⟩ := H
    go_wp2
    go_ret2
    exact ⟨by first | rfl | (simp [errW_none, errW_some] <;> rfl) | (simp [*, errW_none, errW_some] <;> rfl), hbW HB⟩

end Go.Proofs.Ytgelpccjdndfoaa.P

namespace Go.Proofs.Ytgelpccjdndfoaa.P
open Go.RowKit Go.Proofs.YtgelpccjdndfoaaW.PrintWords Go.Proofs.YtgelpccjdndfoaaW.PrintLast Go.Proofs.YtgelpccjdndfoaaW.PrintMore
attribute [local go_sem] max2_int min2_int max_two min_two max_three min_three max_four min_four
set_option linter.unusedVariables false
set_option linter.unusedSimpArgs false

/-! ### dragomanref11_Great: function 24 -/
mutual
def q25z.l0 : Nat → Int → List (S76) → Int → Int → Int → List (S92) → List (S76) → List (S53) → Int → Int → Option (Bool)
 | 0, _, _, _, _, _, _, _, _, _, _ => none
 | k + 1, x3, x11, x12, x13, x2000, x2001, x2002, x2003, x2004, x2005 => if x13 < x12 then (if 0 ≤ x13 then (if x13 < (x11.length : Int) then ((q24z.f k ((rd_T76 x11 x13).f1.f0) ((rd_T76 x11 x13).f1.f1) ((rd_T76 x11 x13).f1.f2)).bind fun bt4 => (if x13 > 100 then (some true) else (if (wrap64 (x3 + bt4.1)) > 3000 then (some true) else (q25z.l0 k (wrap64 (x3 + bt4.1)) x11 x12 (wrap64 (x13 + 1)) x2000 x2001 x2002 x2003 x2004 x2005)))) else (none)) else (none)) else (q25z.l1 k 0 x2003 (x2003.length : Int) 0 x2000 x2001 x2002 x2003 x2004 x2005)
def q25z.l1 : Nat → Int → List (S53) → Int → Int → Int → List (S92) → List (S76) → List (S53) → Int → Int → Option (Bool)
 | 0, _, _, _, _, _, _, _, _, _, _ => none
 | k + 1, x3, x35, x36, x37, x2000, x2001, x2002, x2003, x2004, x2005 => if x37 < x36 then (if 0 ≤ x37 then (if x37 < (x35.length : Int) then (if x37 > 100 then (some true) else (if (wrap64 (x3 + (mn (((rd_T53 x35 x37).f1).length : Int) 10000))) > 3000 then (some true) else (q25z.l1 k (wrap64 (x3 + (mn (((rd_T53 x35 x37).f1).length : Int) 10000))) x35 x36 (wrap64 (x37 + 1)) x2000 x2001 x2002 x2003 x2004 x2005))) else (none)) else (none)) else (some (decide ((x2001.length : Int) > 3000)))
end
def q25z.f (k : Nat) (a0_0 : Int) (l0_1 : List (S92)) (l0_2 : List (S76)) (l0_3 : List (S53)) (a0_4 : Int) (a0_5 : Int) : Option (Bool) := q25z.l0 k 0 l0_2 (l0_2.length : Int) 0 a0_0 l0_1 l0_2 l0_3 a0_4 a0_5
theorem q25z.mono_l : ∀ k, (∀ y0 y1 y2 y3 y4 y5 y6 y7 y8 y9, LeO (q25z.l0 k y0 y1 y2 y3 y4 y5 y6 y7 y8 y9) (q25z.l0 (k + 1) y0 y1 y2 y3 y4 y5 y6 y7 y8 y9)) ∧ (∀ y0 y1 y2 y3 y4 y5 y6 y7 y8 y9, LeO (q25z.l1 k y0 y1 y2 y3 y4 y5 y6 y7 y8 y9) (q25z.l1 (k + 1) y0 y1 y2 y3 y4 y5 y6 y7 y8 y9))
 | 0 => ⟨fun _ _ _ _ _ _ _ _ _ _ r h => by simp [q25z.l0] at h, fun _ _ _ _ _ _ _ _ _ _ r h => by simp [q25z.l1] at h⟩
 | k + 1 => by
  obtain ⟨ih0, ih1⟩ := q25z.mono_l k
  refine ⟨?_, ?_⟩
  ·
   intro y0 y1 y2 y3 y4 y5 y6 y7 y8 y9
   unfold q25z.l0
   repeat' first
   | (with_reducible exact ih0 _ _ _ _ _ _ _ _ _ _)
   | (with_reducible exact ih1 _ _ _ _ _ _ _ _ _ _)
   | (with_reducible exact q24z.mono _ _ _ _)
   | (with_reducible exact LeO.refl _)
   | (with_reducible exact LeO.none _)
   | (with_reducible refine LeO.ite ?_ ?_)
   | (with_reducible refine LeO.bind ?_ (fun _ => ?_))
   | exact ih0 _ _ _ _ _ _ _ _ _ _
   | exact ih1 _ _ _ _ _ _ _ _ _ _
   | exact q24z.mono _ _ _ _
   | exact LeO.none _
   | refine LeO.ite ?_ ?_
   | refine LeO.bind ?_ (fun _ => ?_)
  ·
   intro y0 y1 y2 y3 y4 y5 y6 y7 y8 y9
   unfold q25z.l1
   repeat' first
   | (with_reducible exact ih0 _ _ _ _ _ _ _ _ _ _)
   | (with_reducible exact ih1 _ _ _ _ _ _ _ _ _ _)
   | (with_reducible exact q24z.mono _ _ _ _)
   | (with_reducible exact LeO.refl _)
   | (with_reducible exact LeO.none _)
   | (with_reducible refine LeO.ite ?_ ?_)
   | (with_reducible refine LeO.bind ?_ (fun _ => ?_))
   | exact ih0 _ _ _ _ _ _ _ _ _ _
   | exact ih1 _ _ _ _ _ _ _ _ _ _
   | exact q24z.mono _ _ _ _
   | exact LeO.none _
   | refine LeO.ite ?_ ?_
   | refine LeO.bind ?_ (fun _ => ?_)
theorem q25z.mono : ∀ a0 a1 a2 a3 a4 a5 k, LeO (q25z.f k a0 a1 a2 a3 a4 a5) (q25z.f (k + 1) a0 a1 a2 a3 a4 a5) := by
 intro a0 a1 a2 a3 a4 a5 k
 obtain ⟨ih0, ih1⟩ := q25z.mono_l k
 unfold q25z.f
 repeat' first
   | (with_reducible exact ih0 _ _ _ _ _ _ _ _ _ _)
   | (with_reducible exact ih1 _ _ _ _ _ _ _ _ _ _)
   | (with_reducible exact q24z.mono _ _ _ _)
   | (with_reducible exact LeO.refl _)
   | (with_reducible exact LeO.none _)
   | (with_reducible refine LeO.ite ?_ ?_)
   | (with_reducible refine LeO.bind ?_ (fun _ => ?_))
   | exact ih0 _ _ _ _ _ _ _ _ _ _
   | exact ih1 _ _ _ _ _ _ _ _ _ _
   | exact q24z.mono _ _ _ _
   | exact LeO.none _
   | refine LeO.ite ?_ ?_
   | refine LeO.bind ?_ (fun _ => ?_)
set_option maxHeartbeats 8000000 in
set_option maxRecDepth 100000 in
theorem q25z.calls (k : Nat) (a0_0 : Int) (A0_1 : Option Addr) (c0_1 : Nat) (l0_1 : List (S92)) (A0_2 : Option Addr) (c0_2 : Nat) (l0_2 : List (S76)) (A0_3 : Option Addr) (c0_3 : Nat) (l0_3 : List (S53)) (a0_4 : Int) (a0_5 : Int) (r : Bool) (w : World) (hr0_1 : Kd.C k92 w A0_1 l0_1.length l0_1) (hc0_1 : l0_1.length ≤ c0_1) (hr0_2 : Kd.C k76 w A0_2 l0_2.length l0_2) (hc0_2 : l0_2.length ≤ c0_2) (hr0_3 : Kd.C k53 w A0_3 l0_3.length l0_3) (hc0_3 : l0_3.length ≤ c0_3) (h : q25z.f k a0_0 l0_1 l0_2 l0_3 a0_4 a0_5 = some r) :
  Calls Try.prog 24 #[.agg #[.int .i64 a0_0, .slice A0_1 l0_1.length c0_1, .slice A0_2 l0_2.length c0_2, .slice A0_3 l0_3.length c0_3, .int .u32 a0_4, .int .u32 a0_5]] w fun e w' => e = .returned (.bool r) ∧ Below w.heap.size w w' := by
 have hu58 := Try.underlying58
 have hu76 := Try.underlying76
 have hu74 := Try.underlying74
 have hu53 := Try.underlying53
 have HR0_1 := Aside0.mk hr0_1
 have HC0_1 := Aside0.mk hc0_1
 clear hr0_1 hc0_1
 have HR0_2 := Aside0.mk hr0_2
 have HC0_2 := Aside0.mk hc0_2
 clear hr0_2 hc0_2
 have HR0_3 := Aside0.mk hr0_3
 have HC0_3 := Aside0.mk hc0_3
 clear hr0_3 hc0_3
 have HB := Aside0.mk (Below.refl w.heap.size w)
 have H : (q25z.l0 k 0 l0_2 (l0_2.length : Int) 0 a0_0 l0_1 l0_2 l0_3 a0_4 a0_5) = some r := h
 clear h
 have H' := Aside0.mk H
 clear H
 go_enter Try.func24, Try.ntmps24
 go_wp2_with (first | ((with_reducible refine gate_dst (N := 1) rfl ?_); refine box_event ?hg (N := 1) ?hd (cs := #[.int .i64 a0_0, .slice A0_1 l0_1.length c0_1, .slice A0_2 l0_2.length c0_2, .slice A0_3 l0_3.length c0_3, .int .u32 a0_4, .int .u32 a0_5]) (t := 58) ?hr ?_; (case hd => rfl); (case hg => rfl); (case hr => first | (go_simp; done) | (go_simp; rfl)); intro gb1 hg w2 hbox hb; have n0_ := hbS HB hb; have n1_ := Aside0.mk (hbox); have n2_ := Aside0.mk ((by rw [hg]; exact (below_size (hbW HB)) : w.heap.size ≤ gb1)); have n3_ := Aside0.mk ((by rw [hg]; exact (below_size (hbW HB)) : w.heap.size ≤ gb1)); clear HB; have HB := n0_; have BK1 := n1_; have GW1 := n2_; have GE1 := n3_; clear n0_ n1_ n2_ n3_; clear hb hbox hg; have hcz3_0 : w2.cell? ⟨gb1, 0, none⟩ = some (.int .i64 a0_0) := (blk_cell BK1.out 0).trans rfl; have hcz3_1 : w2.cell? ⟨gb1, 1, none⟩ = some (.slice A0_1 l0_1.length c0_1) := (blk_cell BK1.out 1).trans rfl; have hcz3_2 : w2.cell? ⟨gb1, 2, none⟩ = some (.slice A0_2 l0_2.length c0_2) := (blk_cell BK1.out 2).trans rfl; have hcz3_3 : w2.cell? ⟨gb1, 3, none⟩ = some (.slice A0_3 l0_3.length c0_3) := (blk_cell BK1.out 3).trans rfl; have hcz3_4 : w2.cell? ⟨gb1, 4, none⟩ = some (.int .u32 a0_4) := (blk_cell BK1.out 4).trans rfl; have hcz3_5 : w2.cell? ⟨gb1, 5, none⟩ = some (.int .u32 a0_5) := (blk_cell BK1.out 5).trans rfl; have hfz3_0 := blk_frozen BK1.out 0; have hfz3_1 := blk_frozen BK1.out 1; have hfz3_2 := blk_frozen BK1.out 2; have hfz3_3 := blk_frozen BK1.out 3; have hfz3_4 := blk_frozen BK1.out 4; have hfz3_5 := blk_frozen BK1.out 5))
 go_loopg [3, 13] k (fun kq v3 v13 w' => ∃ (x3_1 : Int) (x13_1 : Int), v3 = .int .i64 x3_1 ∧ v13 = .int .i64 x13_1 ∧ Aside0 (q25z.l0 kq x3_1 l0_2 (l0_2.length : Int) x13_1 a0_0 l0_1 l0_2 l0_3 a0_4 a0_5 = some r) ∧ Aside0 (kq ≤ k) ∧ Aside0 (w'.heap[gb1]? = some (.cells #[.int .i64 a0_0, (.slice A0_1 l0_1.length c0_1), (.slice A0_2 l0_2.length c0_2), (.slice A0_3 l0_3.length c0_3), .int .u32 a0_4, .int .u32 a0_5] 58 (0, 0))) ∧ Aside0 (Below w.heap.size w w'))
 case atStart => exact ⟨(0), (0), (by first | rfl | (simp; done) | (simp [*]; done)), (by first | rfl | (simp; done) | (simp [*]; done)), H', ⟨Nat.le_refl _⟩, ⟨by (with_reducible repeat (first | refine blk_drewN ?_ _ | refine blk_drew ?_ | refine blk_alloc ?_ _)); exact BK1.out⟩, ⟨hbW HB⟩⟩
 case round =>
  clear H'
  try clear c2
  try clear p2
  try clear hcz3_0
  try clear hcz3_1
  try clear hcz3_2
  try clear hcz3_3
  try clear hcz3_4
  try clear hcz3_5
  try clear hfz3_0
  try clear hfz3_1
  try clear hfz3_2
  try clear hfz3_3
  try clear hfz3_4
  try clear hfz3_5
  obtain ⟨x3_1, x13_1, rfl, rfl, HA, HK1, BK1, HB⟩ := hrel
  cases gk with
  | zero => exact absurd HA.out (by simp [q25z.l0])
  | succ k1 =>
   have H := HA.out
   clear HA
   simp only [q25z.l0] at H
   by_cases c4 : x13_1 < (l0_2.length : Int)
   ·
    rw [if_pos c4] at H
    have c4b0 : decide (x13_1 < (l0_2.length : Int)) = true := decide_eq_true c4
    clear c4
    by_cases c5 : 0 ≤ x13_1
    ·
     rw [if_pos c5] at H
     have c5b0 : decide (0 ≤ x13_1) = true := decide_eq_true c5
     clear c5
     by_cases c6 : x13_1 < (l0_2.length : Int)
     ·
      rw [if_pos c6] at H
      have c6b0 : decide (x13_1 < (l0_2.length : Int)) = true := decide_eq_true c6
      clear c6
      replace H := Option.bind_eq_some_iff.mp H
      obtain ⟨⟨t4, t5⟩, A70, H⟩ := H
      replace H : (if x13_1 > 100 then (some true) else (if (wrap64 (x3_1 + t4)) > 3000 then (some true) else (q25z.l0 k1 (wrap64 (x3_1 + t4)) l0_2 (l0_2.length : Int) (wrap64 (x13_1 + 1)) a0_0 l0_1 l0_2 l0_3 a0_4 a0_5))) = some r := H
      have A7 := Aside0.mk A70
      clear A70
      by_cases c8 : x13_1 > 100
      ·
       rw [if_pos c8] at H
       have c8b0 : decide (100 < x13_1) = true := decide_eq_true c8
       clear c8
       obtain rfl := Option.some.inj H
       have p2 : 0 ≤ (x13_1 : Int) := of_decide_eq_true (by first | (with_reducible assumption) | assumption)
       have q2 : x13_1 < (l0_2.length : Int) := of_decide_eq_true (by first | (with_reducible assumption) | assumption)
       obtain ⟨ad2, A2_2, c2_2, A2_3, c2_3, e2, hx2_0, hx2_1, hx2_2, hx2_3, hl2_2, hi2_2, hl2_3, hi2_3⟩ := at_T76 HR0_2.out x13_1 p2 q2
       cases e2
       replace hx2_0 := (HB.out.cell (World.block_lt_of_cell? w _ hx2_0)).trans hx2_0
       replace hx2_1 := (HB.out.cell (World.block_lt_of_cell? w _ hx2_1)).trans hx2_1
       replace hx2_2 := (HB.out.cell (World.block_lt_of_cell? w _ hx2_2)).trans hx2_2
       replace hx2_3 := (HB.out.cell (World.block_lt_of_cell? w _ hx2_3)).trans hx2_3
       have HR2_2 := Aside0.mk hi2_2
       have HC2_2 := Aside0.mk hl2_2
       clear hi2_2 hl2_2
       have HR2_3 := Aside0.mk hi2_3
       have HC2_3 := Aside0.mk hl2_3
       clear hi2_3 hl2_3
       replace p2 := eq_true p2
       replace q2 := eq_true q2
       go_wp2_with (first | ((with_reducible refine gate_dst (N := 5) rfl ?_); refine box_event ?hg (N := 5) ?hd (cs := #[.bool false, .int .i64 0, .slice none 0 0, .slice none 0 0]) (t := 76) ?hr ?_; (case hd => rfl); (case hg => rfl); (case hr => first | (go_simp; done) | (go_simp; rfl)); intro gb3 hg w9 hbox hb; have n0_ := bkB BK1 hb; have n1_ := hbS HB hb; have n2_ := Aside0.mk (hbox); have n3_ := Aside0.mk ((by rw [hg]; exact (below_size (hbW HB)) : w.heap.size ≤ gb3)); have n4_ := Aside0.mk ((by rw [hg]; exact (below_size (hbW HB)) : w.heap.size ≤ gb3)); have n5_ := Aside0.mk ((by rw [hg]; exact Nat.ne_of_lt (blk_lt (bkW BK1)) : gb1 ≠ gb3)); have n6_ := Aside0.mk ((by rw [hg]; exact Nat.ne_of_gt (blk_lt (bkW BK1)) : gb3 ≠ gb1)); clear BK1; clear HB; have BK1 := n0_; have HB := n1_; have BK3 := n2_; have GW3 := n3_; have GE3 := n4_; have NB1_3 := n5_; have NB3_1 := n6_; clear n0_ n1_ n2_ n3_ n4_ n5_ n6_; clear hb hbox hg; have hnb10 := NB3_1.out; have hnc10 := NB1_3.out; have hcz11_0 : w9.cell? ⟨gb3, 0, none⟩ = some (.bool false) := (blk_cell BK3.out 0).trans rfl; have hcz11_1 : w9.cell? ⟨gb3, 1, none⟩ = some (.int .i64 0) := (blk_cell BK3.out 1).trans rfl; have hcz11_2 : w9.cell? ⟨gb3, 2, none⟩ = some (.slice none 0 0) := (blk_cell BK3.out 2).trans rfl; have hcz11_3 : w9.cell? ⟨gb3, 3, none⟩ = some (.slice none 0 0) := (blk_cell BK3.out 3).trans rfl; have hfz11_0 := blk_frozen BK3.out 0; have hfz11_1 := blk_frozen BK3.out 1; have hfz11_2 := blk_frozen BK3.out 2; have hfz11_3 := blk_frozen BK3.out 3) | ((with_reducible refine gate_callee (f := 40) rfl ?_); refine goesL_ (some 21) rfl rfl Try.func40 (by kernel_rfl) rfl #[.agg #[.int .i64 ((rd_T76 l0_2 x13_1).f1.f0), .slice A2_2 ((rd_T76 l0_2 x13_1).f1.f1).length c2_2, .slice A2_3 ((rd_T76 l0_2 x13_1).f1.f2).length c2_3]] rfl (by (try simp only [List.map_toArray, List.map_cons, List.map_nil]); first | done | rfl | (simp only [List.length_drop, List.length_take]; rfl)) ?_; (with_reducible refine (q24z.calls k1 ((rd_T76 l0_2 x13_1).f1.f0) _ _ ((rd_T76 l0_2 x13_1).f1.f1) _ _ ((rd_T76 l0_2 x13_1).f1.f2) t4 t5 _ ?side1 ?side2 ?side3 ?side4 A7.out).mono ?_); (case side1 => exact Kd.C_below HR2_2.out (hbW HB)); (case side2 => exact HC2_2.out); (case side3 => exact Kd.C_below HR2_3.out (hbW HB)); (case side4 => exact HC2_3.out); rintro e w12 ⟨rfl, hb⟩; refine ⟨_, rfl, ?_⟩; have n0_ := Aside0.mk (blk_below (g := gb1) (o := .cells #[.int .i64 a0_0, .slice A0_1 l0_1.length c0_1, .slice (some ad2) l0_2.length c0_2, .slice A0_3 l0_3.length c0_3, .int .u32 a0_4, .int .u32 a0_5] 58 (0, 0)) (by (with_reducible repeat (first | refine blk_drewN ?_ _ | refine blk_drew ?_ | refine blk_alloc ?_ _)); refine blk_far ?_ NB1_3.out _; (with_reducible repeat (first | refine blk_drewN ?_ _ | refine blk_drew ?_ | refine blk_alloc ?_ _)); refine blk_far ?_ NB1_3.out _; (with_reducible repeat (first | refine blk_drewN ?_ _ | refine blk_drew ?_ | refine blk_alloc ?_ _)); refine blk_far ?_ NB1_3.out _; (with_reducible repeat (first | refine blk_drewN ?_ _ | refine blk_drew ?_ | refine blk_alloc ?_ _)); refine blk_far ?_ NB1_3.out _; (with_reducible repeat (first | refine blk_drewN ?_ _ | refine blk_drew ?_ | refine blk_alloc ?_ _)); exact BK1.out) hb); have n1_ := Aside0.mk (blk_below (g := gb3) (o := .cells #[.bool ((rd_T76 l0_2 x13_1).f0), .int .i64 ((rd_T76 l0_2 x13_1).f1.f0), .slice A2_2 ((rd_T76 l0_2 x13_1).f1.f1).length c2_2, .slice A2_3 ((rd_T76 l0_2 x13_1).f1.f2).length c2_3] 76 (0, 0)) (bp4 BK3) hb); have n2_ := hbS HB hb; clear BK1; clear BK3; clear HB; have BK1 := n0_; have BK3 := n1_; have HB := n2_; clear n0_ n1_ n2_; (try clear hb); (try clear hb2); (try clear hk); (try clear hi)))
       go_ret
       exact ⟨by first | rfl | (simp [errW_none, errW_some] <;> rfl) | (simp [*, errW_none, errW_some] <;> rfl), hbW HB⟩
      ·
       rw [if_neg c8] at H
       have c8b0 : decide (100 < x13_1) = false := decide_eq_false c8
       clear c8
       by_cases c13 : (wrap64 (x3_1 + t4)) > 3000
       ·
        rw [if_pos c13] at H
        have c13b0 : decide (3000 < (wrap64 (x3_1 + t4))) = true := decide_eq_true c13
        clear c13
        obtain rfl := Option.some.inj H
        have p2 : 0 ≤ (x13_1 : Int) := of_decide_eq_true (by first | (with_reducible assumption) | assumption)
        have q2 : x13_1 < (l0_2.length : Int) := of_decide_eq_true (by first | (with_reducible assumption) | assumption)
        obtain ⟨ad2, A2_2, c2_2, A2_3, c2_3, e2, hx2_0, hx2_1, hx2_2, hx2_3, hl2_2, hi2_2, hl2_3, hi2_3⟩ := at_T76 HR0_2.out x13_1 p2 q2
        cases e2
        replace hx2_0 := (HB.out.cell (World.block_lt_of_cell? w _ hx2_0)).trans hx2_0
        replace hx2_1 := (HB.out.cell (World.block_lt_of_cell? w _ hx2_1)).trans hx2_1
        replace hx2_2 := (HB.out.cell (World.block_lt_of_cell? w _ hx2_2)).trans hx2_2
        replace hx2_3 := (HB.out.cell (World.block_lt_of_cell? w _ hx2_3)).trans hx2_3
        have HR2_2 := Aside0.mk hi2_2
        have HC2_2 := Aside0.mk hl2_2
        clear hi2_2 hl2_2
        have HR2_3 := Aside0.mk hi2_3
        have HC2_3 := Aside0.mk hl2_3
        clear hi2_3 hl2_3
        replace p2 := eq_true p2
        replace q2 := eq_true q2
        go_wp2_with (first | ((with_reducible refine gate_dst (N := 5) rfl ?_); refine box_event ?hg (N := 5) ?hd (cs := #[.bool false, .int .i64 0, .slice none 0 0, .slice none 0 0]) (t := 76) ?hr ?_; (case hd => rfl); (case hg => rfl); (case hr => first | (go_simp; done) | (go_simp; rfl)); intro gb3 hg w14 hbox hb; have n0_ := bkB BK1 hb; have n1_ := hbS HB hb; have n2_ := Aside0.mk (hbox); have n3_ := Aside0.mk ((by rw [hg]; exact (below_size (hbW HB)) : w.heap.size ≤ gb3)); have n4_ := Aside0.mk ((by rw [hg]; exact (below_size (hbW HB)) : w.heap.size ≤ gb3)); have n5_ := Aside0.mk ((by rw [hg]; exact Nat.ne_of_lt (blk_lt (bkW BK1)) : gb1 ≠ gb3)); have n6_ := Aside0.mk ((by rw [hg]; exact Nat.ne_of_gt (blk_lt (bkW BK1)) : gb3 ≠ gb1)); clear BK1; clear HB; have BK1 := n0_; have HB := n1_; have BK3 := n2_; have GW3 := n3_; have GE3 := n4_; have NB1_3 := n5_; have NB3_1 := n6_; clear n0_ n1_ n2_ n3_ n4_ n5_ n6_; clear hb hbox hg; have hnb15 := NB3_1.out; have hnc15 := NB1_3.out; have hcz16_0 : w14.cell? ⟨gb3, 0, none⟩ = some (.bool false) := (blk_cell BK3.out 0).trans rfl; have hcz16_1 : w14.cell? ⟨gb3, 1, none⟩ = some (.int .i64 0) := (blk_cell BK3.out 1).trans rfl; have hcz16_2 : w14.cell? ⟨gb3, 2, none⟩ = some (.slice none 0 0) := (blk_cell BK3.out 2).trans rfl; have hcz16_3 : w14.cell? ⟨gb3, 3, none⟩ = some (.slice none 0 0) := (blk_cell BK3.out 3).trans rfl; have hfz16_0 := blk_frozen BK3.out 0; have hfz16_1 := blk_frozen BK3.out 1; have hfz16_2 := blk_frozen BK3.out 2; have hfz16_3 := blk_frozen BK3.out 3) | ((with_reducible refine gate_callee (f := 40) rfl ?_); refine goesL_ (some 21) rfl rfl Try.func40 (by kernel_rfl) rfl #[.agg #[.int .i64 ((rd_T76 l0_2 x13_1).f1.f0), .slice A2_2 ((rd_T76 l0_2 x13_1).f1.f1).length c2_2, .slice A2_3 ((rd_T76 l0_2 x13_1).f1.f2).length c2_3]] rfl (by (try simp only [List.map_toArray, List.map_cons, List.map_nil]); first | done | rfl | (simp only [List.length_drop, List.length_take]; rfl)) ?_; (with_reducible refine (q24z.calls k1 ((rd_T76 l0_2 x13_1).f1.f0) _ _ ((rd_T76 l0_2 x13_1).f1.f1) _ _ ((rd_T76 l0_2 x13_1).f1.f2) t4 t5 _ ?side1 ?side2 ?side3 ?side4 A7.out).mono ?_); (case side1 => exact Kd.C_below HR2_2.out (hbW HB)); (case side2 => exact HC2_2.out); (case side3 => exact Kd.C_below HR2_3.out (hbW HB)); (case side4 => exact HC2_3.out); rintro e w17 ⟨rfl, hb⟩; refine ⟨_, rfl, ?_⟩; have n0_ := Aside0.mk (blk_below (g := gb1) (o := .cells #[.int .i64 a0_0, .slice A0_1 l0_1.length c0_1, .slice (some ad2) l0_2.length c0_2, .slice A0_3 l0_3.length c0_3, .int .u32 a0_4, .int .u32 a0_5] 58 (0, 0)) (by (with_reducible repeat (first | refine blk_drewN ?_ _ | refine blk_drew ?_ | refine blk_alloc ?_ _)); refine blk_far ?_ NB1_3.out _; (with_reducible repeat (first | refine blk_drewN ?_ _ | refine blk_drew ?_ | refine blk_alloc ?_ _)); refine blk_far ?_ NB1_3.out _; (with_reducible repeat (first | refine blk_drewN ?_ _ | refine blk_drew ?_ | refine blk_alloc ?_ _)); refine blk_far ?_ NB1_3.out _; (with_reducible repeat (first | refine blk_drewN ?_ _ | refine blk_drew ?_ | refine blk_alloc ?_ _)); refine blk_far ?_ NB1_3.out _; (with_reducible repeat (first | refine blk_drewN ?_ _ | refine blk_drew ?_ | refine blk_alloc ?_ _)); exact BK1.out) hb); have n1_ := Aside0.mk (blk_below (g := gb3) (o := .cells #[.bool ((rd_T76 l0_2 x13_1).f0), .int .i64 ((rd_T76 l0_2 x13_1).f1.f0), .slice A2_2 ((rd_T76 l0_2 x13_1).f1.f1).length c2_2, .slice A2_3 ((rd_T76 l0_2 x13_1).f1.f2).length c2_3] 76 (0, 0)) (bp4 BK3) hb); have n2_ := hbS HB hb; clear BK1; clear BK3; clear HB; have BK1 := n0_; have BK3 := n1_; have HB := n2_; clear n0_ n1_ n2_; (try clear hb); (try clear hb2); (try clear hk); (try clear hi)))
        go_ret
        exact ⟨by first | rfl | (simp [errW_none, errW_some] <;> rfl) | (simp [*, errW_none, errW_some] <;> rfl), hbW HB⟩
       ·
        rw [if_neg c13] at H
        have c13b0 : decide (3000 < (wrap64 (x3_1 + t4))) = false := decide_eq_false c13
        clear c13
        have H' := Aside0.mk H
        clear H
        have p2 : 0 ≤ (x13_1 : Int) := of_decide_eq_true (by first | (with_reducible assumption) | assumption)
        have q2 : x13_1 < (l0_2.length : Int) := of_decide_eq_true (by first | (with_reducible assumption) | assumption)
        obtain ⟨ad2, A2_2, c2_2, A2_3, c2_3, e2, hx2_0, hx2_1, hx2_2, hx2_3, hl2_2, hi2_2, hl2_3, hi2_3⟩ := at_T76 HR0_2.out x13_1 p2 q2
        cases e2
        replace hx2_0 := (HB.out.cell (World.block_lt_of_cell? w _ hx2_0)).trans hx2_0
        replace hx2_1 := (HB.out.cell (World.block_lt_of_cell? w _ hx2_1)).trans hx2_1
        replace hx2_2 := (HB.out.cell (World.block_lt_of_cell? w _ hx2_2)).trans hx2_2
        replace hx2_3 := (HB.out.cell (World.block_lt_of_cell? w _ hx2_3)).trans hx2_3
        have HR2_2 := Aside0.mk hi2_2
        have HC2_2 := Aside0.mk hl2_2
        clear hi2_2 hl2_2
        have HR2_3 := Aside0.mk hi2_3
        have HC2_3 := Aside0.mk hl2_3
        clear hi2_3 hl2_3
        replace p2 := eq_true p2
        replace q2 := eq_true q2
        go_wp2_with (first | ((with_reducible refine gate_dst (N := 5) rfl ?_); refine box_event ?hg (N := 5) ?hd (cs := #[.bool false, .int .i64 0, .slice none 0 0, .slice none 0 0]) (t := 76) ?hr ?_; (case hd => rfl); (case hg => rfl); (case hr => first | (go_simp; done) | (go_simp; rfl)); intro gb3 hg w18 hbox hb; have n0_ := bkB BK1 hb; have n1_ := hbS HB hb; have n2_ := Aside0.mk (hbox); have n3_ := Aside0.mk ((by rw [hg]; exact (below_size (hbW HB)) : w.heap.size ≤ gb3)); have n4_ := Aside0.mk ((by rw [hg]; exact (below_size (hbW HB)) : w.heap.size ≤ gb3)); have n5_ := Aside0.mk ((by rw [hg]; exact Nat.ne_of_lt (blk_lt (bkW BK1)) : gb1 ≠ gb3)); have n6_ := Aside0.mk ((by rw [hg]; exact Nat.ne_of_gt (blk_lt (bkW BK1)) : gb3 ≠ gb1)); clear BK1; clear HB; have BK1 := n0_; have HB := n1_; have BK3 := n2_; have GW3 := n3_; have GE3 := n4_; have NB1_3 := n5_; have NB3_1 := n6_; clear n0_ n1_ n2_ n3_ n4_ n5_ n6_; clear hb hbox hg; have hnb19 := NB3_1.out; have hnc19 := NB1_3.out; have hcz20_0 : w18.cell? ⟨gb3, 0, none⟩ = some (.bool false) := (blk_cell BK3.out 0).trans rfl; have hcz20_1 : w18.cell? ⟨gb3, 1, none⟩ = some (.int .i64 0) := (blk_cell BK3.out 1).trans rfl; have hcz20_2 : w18.cell? ⟨gb3, 2, none⟩ = some (.slice none 0 0) := (blk_cell BK3.out 2).trans rfl; have hcz20_3 : w18.cell? ⟨gb3, 3, none⟩ = some (.slice none 0 0) := (blk_cell BK3.out 3).trans rfl; have hfz20_0 := blk_frozen BK3.out 0; have hfz20_1 := blk_frozen BK3.out 1; have hfz20_2 := blk_frozen BK3.out 2; have hfz20_3 := blk_frozen BK3.out 3) | ((with_reducible refine gate_callee (f := 40) rfl ?_); refine goesL_ (some 21) rfl rfl Try.func40 (by kernel_rfl) rfl #[.agg #[.int .i64 ((rd_T76 l0_2 x13_1).f1.f0), .slice A2_2 ((rd_T76 l0_2 x13_1).f1.f1).length c2_2, .slice A2_3 ((rd_T76 l0_2 x13_1).f1.f2).length c2_3]] rfl (by (try simp only [List.map_toArray, List.map_cons, List.map_nil]); first | done | rfl | (simp only [List.length_drop, List.length_take]; rfl)) ?_; (with_reducible refine (q24z.calls k1 ((rd_T76 l0_2 x13_1).f1.f0) _ _ ((rd_T76 l0_2 x13_1).f1.f1) _ _ ((rd_T76 l0_2 x13_1).f1.f2) t4 t5 _ ?side1 ?side2 ?side3 ?side4 A7.out).mono ?_); (case side1 => exact Kd.C_below HR2_2.out (hbW HB)); (case side2 => exact HC2_2.out); (case side3 => exact Kd.C_below HR2_3.out (hbW HB)); (case side4 => exact HC2_3.out); rintro e w21 ⟨rfl, hb⟩; refine ⟨_, rfl, ?_⟩; have n0_ := Aside0.mk (blk_below (g := gb1) (o := .cells #[.int .i64 a0_0, .slice A0_1 l0_1.length c0_1, .slice (some ad2) l0_2.length c0_2, .slice A0_3 l0_3.length c0_3, .int .u32 a0_4, .int .u32 a0_5] 58 (0, 0)) (by (with_reducible repeat (first | refine blk_drewN ?_ _ | refine blk_drew ?_ | refine blk_alloc ?_ _)); refine blk_far ?_ NB1_3.out _; (with_reducible repeat (first | refine blk_drewN ?_ _ | refine blk_drew ?_ | refine blk_alloc ?_ _)); refine blk_far ?_ NB1_3.out _; (with_reducible repeat (first | refine blk_drewN ?_ _ | refine blk_drew ?_ | refine blk_alloc ?_ _)); refine blk_far ?_ NB1_3.out _; (with_reducible repeat (first | refine blk_drewN ?_ _ | refine blk_drew ?_ | refine blk_alloc ?_ _)); refine blk_far ?_ NB1_3.out _; (with_reducible repeat (first | refine blk_drewN ?_ _ | refine blk_drew ?_ | refine blk_alloc ?_ _)); exact BK1.out) hb); have n1_ := Aside0.mk (blk_below (g := gb3) (o := .cells #[.bool ((rd_T76 l0_2 x13_1).f0), .int .i64 ((rd_T76 l0_2 x13_1).f1.f0), .slice A2_2 ((rd_T76 l0_2 x13_1).f1.f1).length c2_2, .slice A2_3 ((rd_T76 l0_2 x13_1).f1.f2).length c2_3] 76 (0, 0)) (bp4 BK3) hb); have n2_ := hbS HB hb; clear BK1; clear BK3; clear HB; have BK1 := n0_; have BK3 := n1_; have HB := n2_; clear n0_ n1_ n2_; (try clear hb); (try clear hb2); (try clear hk); (try clear hi)))
        go_roundg k1
        case measure => have := HK1.out; omega
        case rel => exact ⟨(wrap64 (x3_1 + t4)), (wrap64 (x13_1 + 1)), (by first | rfl | (simp; done) | (simp [*]; done)), (by first | rfl | (simp; done) | (simp [*]; done)), H', ⟨by have := HK1.out; omega⟩, ⟨by (with_reducible repeat (first | refine blk_drewN ?_ _ | refine blk_drew ?_ | refine blk_alloc ?_ _)); exact BK1.out⟩, ⟨hbW HB⟩⟩
     ·
      rw [if_neg c6] at H
      exact absurd H (by simp)
    ·
     rw [if_neg c5] at H
     exact absurd H (by simp)
   ·
    rw [if_neg c4] at H
    have c4b0 : decide (x13_1 < (l0_2.length : Int)) = false := decide_eq_false c4
    clear c4
    have H' := Aside0.mk H
    clear H
    have hcz22_0 : wr.cell? ⟨gb1, 0, none⟩ = some (.int .i64 a0_0) := (blk_cell BK1.out 0).trans rfl
    have hcz22_1 : wr.cell? ⟨gb1, 1, none⟩ = some (.slice A0_1 l0_1.length c0_1) := (blk_cell BK1.out 1).trans rfl
    have hcz22_2 : wr.cell? ⟨gb1, 2, none⟩ = some (.slice A0_2 l0_2.length c0_2) := (blk_cell BK1.out 2).trans rfl
    have hcz22_3 : wr.cell? ⟨gb1, 3, none⟩ = some (.slice A0_3 l0_3.length c0_3) := (blk_cell BK1.out 3).trans rfl
    have hcz22_4 : wr.cell? ⟨gb1, 4, none⟩ = some (.int .u32 a0_4) := (blk_cell BK1.out 4).trans rfl
    have hcz22_5 : wr.cell? ⟨gb1, 5, none⟩ = some (.int .u32 a0_5) := (blk_cell BK1.out 5).trans rfl
    have hfz22_0 := blk_frozen BK1.out 0
    have hfz22_1 := blk_frozen BK1.out 1
    have hfz22_2 := blk_frozen BK1.out 2
    have hfz22_3 := blk_frozen BK1.out 3
    have hfz22_4 := blk_frozen BK1.out 4
    have hfz22_5 := blk_frozen BK1.out 5
    go_wp2
    go_loopg [3, 37] k1 (fun kq v3 v37 w' => ∃ (x3_2 : Int) (x37_2 : Int), v3 = .int .i64 x3_2 ∧ v37 = .int .i64 x37_2 ∧ Aside0 (q25z.l1 kq x3_2 l0_3 (l0_3.length : Int) x37_2 a0_0 l0_1 l0_2 l0_3 a0_4 a0_5 = some r) ∧ Aside0 (kq ≤ k1) ∧ Aside0 (w'.heap[gb1]? = some (.cells #[.int .i64 a0_0, (.slice A0_1 l0_1.length c0_1), (.slice A0_2 l0_2.length c0_2), (.slice A0_3 l0_3.length c0_3), .int .u32 a0_4, .int .u32 a0_5] 58 (0, 0))) ∧ Aside0 (Below w.heap.size w w'))
    case atStart => exact ⟨(0), (0), (by first | rfl | (simp; done) | (simp [*]; done)), (by first | rfl | (simp; done) | (simp [*]; done)), H', ⟨Nat.le_refl _⟩, ⟨by (with_reducible repeat (first | refine blk_drewN ?_ _ | refine blk_drew ?_ | refine blk_alloc ?_ _)); exact BK1.out⟩, ⟨hbW HB⟩⟩
    case round =>
     clear H'
     try clear c1
     try clear c2
     try clear p2
     try clear q2
     try clear hx2
     try clear c4
     try clear c4b0
     try clear c5
     try clear c5b0
     try clear c6
     try clear c6b0
     try clear p6
     try clear c8
     try clear c8b0
     try clear c10
     try clear c13
     try clear c13b0
     try clear c15
     try clear c19
     try clear hcz11_0
     try clear hcz11_1
     try clear hcz11_2
     try clear hcz11_3
     try clear hcz16_0
     try clear hcz16_1
     try clear hcz16_2
     try clear hcz16_3
     try clear hcz20_0
     try clear hcz20_1
     try clear hcz20_2
     try clear hcz20_3
     try clear hcz22_0
     try clear hcz22_1
     try clear hcz22_2
     try clear hcz22_3
     try clear hcz22_4
     try clear hcz22_5
     try clear hcz3_0
     try clear hcz3_1
     try clear hcz3_2
     try clear hcz3_3
     try clear hcz3_4
     try clear hcz3_5
     try clear hfz11_0
     try clear hfz11_1
     try clear hfz11_2
     try clear hfz11_3
     try clear hfz16_0
     try clear hfz16_1
     try clear hfz16_2
     try clear hfz16_3
     try clear hfz20_0
     try clear hfz20_1
     try clear hfz20_2
     try clear hfz20_3
     try clear hfz22_0
     try clear hfz22_1
     try clear hfz22_2
     try clear hfz22_3
     try clear hfz22_4
     try clear hfz22_5
     try clear hfz3_0
     try clear hfz3_1
     try clear hfz3_2
     try clear hfz3_3
     try clear hfz3_4
     try clear hfz3_5
     try clear hx2_0
     try clear hx2_1
     try clear hx2_2
     try clear hx2_3
     try clear p2
     try clear q2
     obtain ⟨x3_2, x37_2, rfl, rfl, HA, HK2, BK1, HB⟩ := hrel
     cases gk with
     | zero => exact absurd HA.out (by simp [q25z.l1])
     | succ k2 =>
      have H := HA.out
      clear HA
      simp only [q25z.l1] at H
      by_cases c23 : x37_2 < (l0_3.length : Int)
      ·
       rw [if_pos c23] at H
       have c23b0 : decide (x37_2 < (l0_3.length : Int)) = true := decide_eq_true c23
       clear c23
       by_cases c24 : 0 ≤ x37_2
       ·
        rw [if_pos c24] at H
        have c24b0 : decide (0 ≤ x37_2) = true := decide_eq_true c24
        clear c24
        by_cases c25 : x37_2 < (l0_3.length : Int)
        ·
         rw [if_pos c25] at H
         have c25b0 : decide (x37_2 < (l0_3.length : Int)) = true := decide_eq_true c25
         clear c25
         obtain ⟨ji26, hji26⟩ : ∃ j_ : Int, (mn (((rd_T53 l0_3 x37_2).f1).length : Int) 10000) = j_ := ⟨_, rfl⟩
         replace H : (if x37_2 > 100 then (some true) else (if (wrap64 (x3_2 + (ji26))) > 3000 then (some true) else (q25z.l1 k2 (wrap64 (x3_2 + (ji26))) l0_3 (l0_3.length : Int) (wrap64 (x37_2 + 1)) a0_0 l0_1 l0_2 l0_3 a0_4 a0_5))) = some r := by first | (rw [hji26] at H; exact H) | (simp only [hji26] at H ⊢; exact H)
         have hji26_ : (if 10000 < (((rd_T53 l0_3 x37_2).f1).length : Int) then 10000 else (((rd_T53 l0_3 x37_2).f1).length : Int)) = ji26 := hji26
         by_cases c27 : x37_2 > 100
         ·
          rw [if_pos c27] at H
          have c27b0 : decide (100 < x37_2) = true := decide_eq_true c27
          clear c27
          obtain rfl := Option.some.inj H
          have p6 : 0 ≤ (x37_2 : Int) := of_decide_eq_true (by first | (with_reducible assumption) | assumption)
          have q6 : x37_2 < (l0_3.length : Int) := of_decide_eq_true (by first | (with_reducible assumption) | assumption)
          obtain ⟨ad6, A6_1, c6_1, e6, hx6_0, hx6_1, hl6_1, hi6_1⟩ := at_T53 HR0_3.out x37_2 p6 q6
          cases e6
          replace hx6_0 := (HB.out.cell (World.block_lt_of_cell? w _ hx6_0)).trans hx6_0
          replace hx6_1 := (HB.out.cell (World.block_lt_of_cell? w _ hx6_1)).trans hx6_1
          have HR6_1 := Aside0.mk hi6_1
          have HC6_1 := Aside0.mk hl6_1
          clear hi6_1 hl6_1
          replace p6 := eq_true p6
          replace q6 := eq_true q6
          go_wp2_with (first | ((with_reducible refine gate_dst (N := 9) rfl ?_); refine box_event ?hg (N := 9) ?hd (cs := #[.bool false, .slice none 0 0]) (t := 53) ?hr ?_; (case hd => rfl); (case hg => rfl); (case hr => first | (go_simp; done) | (go_simp; rfl)); intro gb7 hg w28 hbox hb; have n0_ := bkB BK1 hb; have n1_ := hbS HB hb; have n2_ := Aside0.mk (hbox); have n3_ := Aside0.mk ((by rw [hg]; exact (below_size (hbW HB)) : w.heap.size ≤ gb7)); have n4_ := Aside0.mk ((by rw [hg]; exact (below_size (hbW HB)) : w.heap.size ≤ gb7)); have n5_ := Aside0.mk ((by rw [hg]; exact Nat.ne_of_lt (blk_lt (bkW BK1)) : gb1 ≠ gb7)); have n6_ := Aside0.mk ((by rw [hg]; exact Nat.ne_of_gt (blk_lt (bkW BK1)) : gb7 ≠ gb1)); clear BK1; clear HB; have BK1 := n0_; have HB := n1_; have BK7 := n2_; have GW7 := n3_; have GE7 := n4_; have NB1_7 := n5_; have NB7_1 := n6_; clear n0_ n1_ n2_ n3_ n4_ n5_ n6_; clear hb hbox hg; have hnb29 := NB7_1.out; have hnc29 := NB1_7.out; have hcz30_0 : w28.cell? ⟨gb7, 0, none⟩ = some (.bool false) := (blk_cell BK7.out 0).trans rfl; have hcz30_1 : w28.cell? ⟨gb7, 1, none⟩ = some (.slice none 0 0) := (blk_cell BK7.out 1).trans rfl; have hfz30_0 := blk_frozen BK7.out 0; have hfz30_1 := blk_frozen BK7.out 1))
          go_ret
          exact ⟨by first | rfl | (simp [errW_none, errW_some] <;> rfl) | (simp only [← hji26]; first | rfl | (simp [errW_none, errW_some] <;> rfl)) | (simp [*, errW_none, errW_some] <;> rfl), hbW HB⟩
         ·
          rw [if_neg c27] at H
          have c27b0 : decide (100 < x37_2) = false := decide_eq_false c27
          clear c27
          by_cases c31 : (wrap64 (x3_2 + (ji26))) > 3000
          ·
           rw [if_pos c31] at H
           have c31b0 : decide (3000 < (wrap64 (x3_2 + (ji26)))) = true := decide_eq_true c31
           clear c31
           obtain rfl := Option.some.inj H
           have p6 : 0 ≤ (x37_2 : Int) := of_decide_eq_true (by first | (with_reducible assumption) | assumption)
           have q6 : x37_2 < (l0_3.length : Int) := of_decide_eq_true (by first | (with_reducible assumption) | assumption)
           obtain ⟨ad6, A6_1, c6_1, e6, hx6_0, hx6_1, hl6_1, hi6_1⟩ := at_T53 HR0_3.out x37_2 p6 q6
           cases e6
           replace hx6_0 := (HB.out.cell (World.block_lt_of_cell? w _ hx6_0)).trans hx6_0
           replace hx6_1 := (HB.out.cell (World.block_lt_of_cell? w _ hx6_1)).trans hx6_1
           have HR6_1 := Aside0.mk hi6_1
           have HC6_1 := Aside0.mk hl6_1
           clear hi6_1 hl6_1
           replace p6 := eq_true p6
           replace q6 := eq_true q6
           go_wp2_with (first | ((with_reducible refine gate_dst (N := 9) rfl ?_); refine box_event ?hg (N := 9) ?hd (cs := #[.bool false, .slice none 0 0]) (t := 53) ?hr ?_; (case hd => rfl); (case hg => rfl); (case hr => first | (go_simp; done) | (go_simp; rfl)); intro gb7 hg w32 hbox hb; have n0_ := bkB BK1 hb; have n1_ := hbS HB hb; have n2_ := Aside0.mk (hbox); have n3_ := Aside0.mk ((by rw [hg]; exact (below_size (hbW HB)) : w.heap.size ≤ gb7)); have n4_ := Aside0.mk ((by rw [hg]; exact (below_size (hbW HB)) : w.heap.size ≤ gb7)); have n5_ := Aside0.mk ((by rw [hg]; exact Nat.ne_of_lt (blk_lt (bkW BK1)) : gb1 ≠ gb7)); have n6_ := Aside0.mk ((by rw [hg]; exact Nat.ne_of_gt (blk_lt (bkW BK1)) : gb7 ≠ gb1)); clear BK1; clear HB; have BK1 := n0_; have HB := n1_; have BK7 := n2_; have GW7 := n3_; have GE7 := n4_; have NB1_7 := n5_; have NB7_1 := n6_; clear n0_ n1_ n2_ n3_ n4_ n5_ n6_; clear hb hbox hg; have hnb33 := NB7_1.out; have hnc33 := NB1_7.out; have hcz34_0 : w32.cell? ⟨gb7, 0, none⟩ = some (.bool false) := (blk_cell BK7.out 0).trans rfl; have hcz34_1 : w32.cell? ⟨gb7, 1, none⟩ = some (.slice none 0 0) := (blk_cell BK7.out 1).trans rfl; have hfz34_0 := blk_frozen BK7.out 0; have hfz34_1 := blk_frozen BK7.out 1))
           go_ret
           exact ⟨by first | rfl | (simp [errW_none, errW_some] <;> rfl) | (simp only [← hji26]; first | rfl | (simp [errW_none, errW_some] <;> rfl)) | (simp [*, errW_none, errW_some] <;> rfl), hbW HB⟩
          ·
           rw [if_neg c31] at H
           have c31b0 : decide (3000 < (wrap64 (x3_2 + (ji26)))) = false := decide_eq_false c31
           clear c31
           have H' := Aside0.mk H
           clear H
           have p6 : 0 ≤ (x37_2 : Int) := of_decide_eq_true (by first | (with_reducible assumption) | assumption)
           have q6 : x37_2 < (l0_3.length : Int) := of_decide_eq_true (by first | (with_reducible assumption) | assumption)
           obtain ⟨ad6, A6_1, c6_1, e6, hx6_0, hx6_1, hl6_1, hi6_1⟩ := at_T53 HR0_3.out x37_2 p6 q6
           cases e6
           replace hx6_0 := (HB.out.cell (World.block_lt_of_cell? w _ hx6_0)).trans hx6_0
           replace hx6_1 := (HB.out.cell (World.block_lt_of_cell? w _ hx6_1)).trans hx6_1
           have HR6_1 := Aside0.mk hi6_1
           have HC6_1 := Aside0.mk hl6_1
           clear hi6_1 hl6_1
           replace p6 := eq_true p6
           replace q6 := eq_true q6
           go_wp2_with (first | ((with_reducible refine gate_dst (N := 9) rfl ?_); refine box_event ?hg (N := 9) ?hd (cs := #[.bool false, .slice none 0 0]) (t := 53) ?hr ?_; (case hd => rfl); (case hg => rfl); (case hr => first | (go_simp; done) | (go_simp; rfl)); intro gb7 hg w35 hbox hb; have n0_ := bkB BK1 hb; have n1_ := hbS HB hb; have n2_ := Aside0.mk (hbox); have n3_ := Aside0.mk ((by rw [hg]; exact (below_size (hbW HB)) : w.heap.size ≤ gb7)); have n4_ := Aside0.mk ((by rw [hg]; exact (below_size (hbW HB)) : w.heap.size ≤ gb7)); have n5_ := Aside0.mk ((by rw [hg]; exact Nat.ne_of_lt (blk_lt (bkW BK1)) : gb1 ≠ gb7)); have n6_ := Aside0.mk ((by rw [hg]; exact Nat.ne_of_gt (blk_lt (bkW BK1)) : gb7 ≠ gb1)); clear BK1; clear HB; have BK1 := n0_; have HB := n1_; have BK7 := n2_; have GW7 := n3_; have GE7 := n4_; have NB1_7 := n5_; have NB7_1 := n6_; clear n0_ n1_ n2_ n3_ n4_ n5_ n6_; clear hb hbox hg; have hnb36 := NB7_1.out; have hnc36 := NB1_7.out; have hcz37_0 : w35.cell? ⟨gb7, 0, none⟩ = some (.bool false) := (blk_cell BK7.out 0).trans rfl; have hcz37_1 : w35.cell? ⟨gb7, 1, none⟩ = some (.slice none 0 0) := (blk_cell BK7.out 1).trans rfl; have hfz37_0 := blk_frozen BK7.out 0; have hfz37_1 := blk_frozen BK7.out 1))
           go_roundg k2
           case measure => have := HK1.out; have := HK2.out; omega
           case rel => exact ⟨(wrap64 (x3_2 + (ji26))), (wrap64 (x37_2 + 1)), (by first | rfl | (simp; done) | (simp only [← hji26] <;> (first | rfl | simp)) | (simp [*]; done)), (by first | rfl | (simp; done) | (simp [*]; done)), H', ⟨by have := HK1.out; have := HK2.out; omega⟩, ⟨by (with_reducible repeat (first | refine blk_drewN ?_ _ | refine blk_drew ?_ | refine blk_alloc ?_ _)); refine blk_far ?_ NB1_7.out _; (with_reducible repeat (first | refine blk_drewN ?_ _ | refine blk_drew ?_ | refine blk_alloc ?_ _)); refine blk_far ?_ NB1_7.out _; (with_reducible repeat (first | refine blk_drewN ?_ _ | refine blk_drew ?_ | refine blk_alloc ?_ _)); exact BK1.out⟩, ⟨hbW HB⟩⟩
        ·
         rw [if_neg c25] at H
         exact absurd H (by simp)
       ·
        rw [if_neg c24] at H
        exact absurd H (by simp)
      ·
       rw [if_neg c23] at H
       have c23b0 : decide (x37_2 < (l0_3.length : Int)) = false := decide_eq_false c23
       clear c23
       obtain rfl := Option.some.inj H
       have hcz38_0 : wr.cell? ⟨gb1, 0, none⟩ = some (.int .i64 a0_0) := (blk_cell BK1.out 0).trans rfl
       have hcz38_1 : wr.cell? ⟨gb1, 1, none⟩ = some (.slice A0_1 l0_1.length c0_1) := (blk_cell BK1.out 1).trans rfl
       have hcz38_2 : wr.cell? ⟨gb1, 2, none⟩ = some (.slice A0_2 l0_2.length c0_2) := (blk_cell BK1.out 2).trans rfl
       have hcz38_3 : wr.cell? ⟨gb1, 3, none⟩ = some (.slice A0_3 l0_3.length c0_3) := (blk_cell BK1.out 3).trans rfl
       have hcz38_4 : wr.cell? ⟨gb1, 4, none⟩ = some (.int .u32 a0_4) := (blk_cell BK1.out 4).trans rfl
       have hcz38_5 : wr.cell? ⟨gb1, 5, none⟩ = some (.int .u32 a0_5) := (blk_cell BK1.out 5).trans rfl
       have hfz38_0 := blk_frozen BK1.out 0
       have hfz38_1 := blk_frozen BK1.out 1
       have hfz38_2 := blk_frozen BK1.out 2
       have hfz38_3 := blk_frozen BK1.out 3
       have hfz38_4 := blk_frozen BK1.out 4
       have hfz38_5 := blk_frozen BK1.out 5
       go_wp2
       go_ret
       exact ⟨by first | rfl | (simp [errW_none, errW_some] <;> rfl) | (simp [*, errW_none, errW_some] <;> rfl), hbW HB⟩

end Go.Proofs.Ytgelpccjdndfoaa.P

namespace Go.Proofs.Ytgelpccjdndfoaa.P
open Go.RowKit Go.Proofs.YtgelpccjdndfoaaW.PrintWords Go.Proofs.YtgelpccjdndfoaaW.PrintLast Go.Proofs.YtgelpccjdndfoaaW.PrintMore
attribute [local go_sem] max2_int min2_int max_two min_two max_three min_three max_four min_four
set_option linter.unusedVariables false
set_option linter.unusedSimpArgs false

/-! ### dragomanref12_Great: function 9 -/
def q26z.f (k : Nat) (a0_0 : Int) (a0_1 : Int) (l0_2 : List Int) (l0_3 : List (S53)) : Option (Bool) := if (l0_2.length : Int) > 3000 then (some true) else ((q25z.f k 0 ([] : List (S92)) ([] : List (S76)) l0_3 0 0).bind fun t2 => (some t2))
theorem q26z.mono : ∀ a0 a1 a2 a3 k, LeO (q26z.f k a0 a1 a2 a3) (q26z.f (k + 1) a0 a1 a2 a3) := by
 intro a0 a1 a2 a3 k
 unfold q26z.f
 repeat' first
   | (with_reducible exact q25z.mono _ _ _ _ _ _ _)
   | (with_reducible exact LeO.refl _)
   | (with_reducible exact LeO.none _)
   | (with_reducible refine LeO.ite ?_ ?_)
   | (with_reducible refine LeO.bind ?_ (fun _ => ?_))
   | exact q25z.mono _ _ _ _ _ _ _
   | exact LeO.none _
   | refine LeO.ite ?_ ?_
   | refine LeO.bind ?_ (fun _ => ?_)
set_option maxHeartbeats 8000000 in
set_option maxRecDepth 100000 in
theorem q26z.calls (k : Nat) (a0_0 : Int) (a0_1 : Int) (A0_2 : Option Addr) (c0_2 : Nat) (l0_2 : List Int) (A0_3 : Option Addr) (c0_3 : Nat) (l0_3 : List (S53)) (r : Bool) (w : World) (hr0_2 : Kd.C (Kd.int .u32) w A0_2 l0_2.length l0_2) (hc0_2 : l0_2.length ≤ c0_2) (hr0_3 : Kd.C k53 w A0_3 l0_3.length l0_3) (hc0_3 : l0_3.length ≤ c0_3) (h : q26z.f k a0_0 a0_1 l0_2 l0_3 = some r) :
  Calls Try.prog 9 #[.agg #[.int .i64 a0_0, .int .u32 a0_1, .slice A0_2 l0_2.length c0_2, .slice A0_3 l0_3.length c0_3]] w fun e w' => e = .returned (.bool r) ∧ Below w.heap.size w w' := by
 have hu26 := Try.underlying26
 have hu58 := Try.underlying58
 have HR0_2 := Aside0.mk hr0_2
 have HC0_2 := Aside0.mk hc0_2
 clear hr0_2 hc0_2
 have HR0_3 := Aside0.mk hr0_3
 have HC0_3 := Aside0.mk hc0_3
 clear hr0_3 hc0_3
 have HB := Aside0.mk (Below.refl w.heap.size w)
 have H : (if (l0_2.length : Int) > 3000 then (some true) else ((q25z.f k 0 ([] : List (S92)) ([] : List (S76)) l0_3 0 0).bind fun t2 => (some t2))) = some r := h
 clear h
 by_cases c2 : (l0_2.length : Int) > 3000
 ·
  rw [if_pos c2] at H
  have c2b0 : decide (3000 < (l0_2.length : Int)) = true := decide_eq_true c2
  have c2b1 : decide (3000 < l0_2.length) = true := decide_eq_true (by omega)
  clear c2
  obtain rfl := Option.some.inj H
  go_enter Try.func9, Try.ntmps9
  go_wp2_with (first | ((with_reducible refine gate_dst (N := 1) rfl ?_); refine box_event ?hg (N := 1) ?hd (cs := #[.int .i64 a0_0, .int .u32 a0_1, .slice A0_2 l0_2.length c0_2, .slice A0_3 l0_3.length c0_3]) (t := 26) ?hr ?_; (case hd => rfl); (case hg => rfl); (case hr => first | (go_simp; done) | (go_simp; rfl)); intro gb1 hg w3 hbox hb; have n0_ := hbS HB hb; have n1_ := Aside0.mk (hbox); have n2_ := Aside0.mk ((by rw [hg]; exact (below_size (hbW HB)) : w.heap.size ≤ gb1)); have n3_ := Aside0.mk ((by rw [hg]; exact (below_size (hbW HB)) : w.heap.size ≤ gb1)); clear HB; have HB := n0_; have BK1 := n1_; have GW1 := n2_; have GE1 := n3_; clear n0_ n1_ n2_ n3_; clear hb hbox hg; have hcz4_0 : w3.cell? ⟨gb1, 0, none⟩ = some (.int .i64 a0_0) := (blk_cell BK1.out 0).trans rfl; have hcz4_1 : w3.cell? ⟨gb1, 1, none⟩ = some (.int .u32 a0_1) := (blk_cell BK1.out 1).trans rfl; have hcz4_2 : w3.cell? ⟨gb1, 2, none⟩ = some (.slice A0_2 l0_2.length c0_2) := (blk_cell BK1.out 2).trans rfl; have hcz4_3 : w3.cell? ⟨gb1, 3, none⟩ = some (.slice A0_3 l0_3.length c0_3) := (blk_cell BK1.out 3).trans rfl; have hfz4_0 := blk_frozen BK1.out 0; have hfz4_1 := blk_frozen BK1.out 1; have hfz4_2 := blk_frozen BK1.out 2; have hfz4_3 := blk_frozen BK1.out 3))
  go_ret
  exact ⟨by first | rfl | (simp [errW_none, errW_some] <;> rfl) | (simp [*, errW_none, errW_some] <;> rfl), hbW HB⟩
 ·
  rw [if_neg c2] at H
  have c2b0 : decide (3000 < (l0_2.length : Int)) = false := decide_eq_false c2
  have c2b1 : decide (3000 < l0_2.length) = false := decide_eq_false (by omega)
  clear c2
  replace H := Option.bind_eq_some_iff.mp H
  obtain ⟨t2, A50, H⟩ := H
  replace H : (some t2) = some r := H
  have A5 := Aside0.mk A50
  clear A50
  obtain rfl := Option.some.inj H
  go_enter Try.func9, Try.ntmps9
  go_wp2_with (first | ((with_reducible refine gate_dst (N := 1) rfl ?_); refine box_event ?hg (N := 1) ?hd (cs := #[.int .i64 a0_0, .int .u32 a0_1, .slice A0_2 l0_2.length c0_2, .slice A0_3 l0_3.length c0_3]) (t := 26) ?hr ?_; (case hd => rfl); (case hg => rfl); (case hr => first | (go_simp; done) | (go_simp; rfl)); intro gb1 hg w6 hbox hb; have n0_ := hbS HB hb; have n1_ := Aside0.mk (hbox); have n2_ := Aside0.mk ((by rw [hg]; exact (below_size (hbW HB)) : w.heap.size ≤ gb1)); have n3_ := Aside0.mk ((by rw [hg]; exact (below_size (hbW HB)) : w.heap.size ≤ gb1)); clear HB; have HB := n0_; have BK1 := n1_; have GW1 := n2_; have GE1 := n3_; clear n0_ n1_ n2_ n3_; clear hb hbox hg; have hcz7_0 : w6.cell? ⟨gb1, 0, none⟩ = some (.int .i64 a0_0) := (blk_cell BK1.out 0).trans rfl; have hcz7_1 : w6.cell? ⟨gb1, 1, none⟩ = some (.int .u32 a0_1) := (blk_cell BK1.out 1).trans rfl; have hcz7_2 : w6.cell? ⟨gb1, 2, none⟩ = some (.slice A0_2 l0_2.length c0_2) := (blk_cell BK1.out 2).trans rfl; have hcz7_3 : w6.cell? ⟨gb1, 3, none⟩ = some (.slice A0_3 l0_3.length c0_3) := (blk_cell BK1.out 3).trans rfl; have hfz7_0 := blk_frozen BK1.out 0; have hfz7_1 := blk_frozen BK1.out 1; have hfz7_2 := blk_frozen BK1.out 2; have hfz7_3 := blk_frozen BK1.out 3) | (go_at_call 24; (refine (q25z.calls k 0 _ _ ([] : List (S92)) _ _ ([] : List (S76)) _ _ l0_3 0 0 t2 _ ?side1 ?side2 ?side3 ?side4 ?side5 ?side6 A5.out).mono ?_); (case side1 => exact Kd.C_nil _ _); (case side2 => exact Nat.le_refl _); (case side3 => exact Kd.C_nil _ _); (case side4 => exact Nat.le_refl _); (case side5 => repeat (first | exact (Kd.C_below HR0_3.out HB.out) | (with_reducible refine Kd.C_alloc ?_ _) | (with_reducible refine Kd.C_drewN ?_ _) | (with_reducible refine Kd.C_drew ?_))); (case side6 => exact HC0_3.out); rintro e w8 ⟨rfl, hb⟩; have n0_ := bkB BK1 hb; have n1_ := hbS HB hb; clear BK1; clear HB; have BK1 := n0_; have HB := n1_; clear n0_ n1_; (try clear hb); (try clear hb2); (try clear hk); (try clear hi)))
  go_ret
  exact ⟨by first | rfl | (simp [errW_none, errW_some] <;> rfl) | (simp [*, errW_none, errW_some] <;> rfl), hbW HB⟩

end Go.Proofs.Ytgelpccjdndfoaa.P
