/-
  Proved: for every input the law ActSets answers true, and each argument reads behind the call as it read before.
  Conditions: none beside the row's own.
-/
import Derived.Lib.SlicesCompact
import Derived.Test.YtgelpccjdndfoaaRows
import Derived.WalkKit
import Derived.ProofKit
import Derived.OpenShut
import Derived.ShutString
import Derived.ChangeOld
import Derived.Below
import Derived.SizedLaws
import Derived.Test.YtgelpccjdndfoaaCActSets0
import Derived.Test.YtgelpccjdndfoaaCActSets1
import Derived.Test.YtgelpccjdndfoaaCActSets2
import Derived.Test.YtgelpccjdndfoaaCActSets3
set_option linter.unusedVariables false
set_option linter.unusedSimpArgs false
namespace Go.Proofs.Ytgelpccjdndfoaa.P
open Go.RowKit Go.Proofs.YtgelpccjdndfoaaW.PrintWords Go.Proofs.YtgelpccjdndfoaaW.PrintLast Go.Proofs.YtgelpccjdndfoaaW.PrintMore
attribute [local go_sem] max2_int min2_int max_two min_two max_three min_three max_four min_four
/-! ### dragomanref03_Cmp: function 16 -/
def q27z.l0 : Nat → Int → Int → Int → Int → Int → Int → Int → Int → Int → Option (Int)
 | 0, _, _, _, _, _, _, _, _, _ => none
 | k + 1, x60, x800, x801, x802, x803, x804, x805, x806, x807 => if x60 < 8 then (if 0 ≤ x60 then (if (arrA68 x800 x801 x802 x803 x804 x805 x806 x807 x60) = 0 then (q27z.l0 k (wrap64 (x60 + 1)) x800 x801 x802 x803 x804 x805 x806 x807) else (some (arrA68 x800 x801 x802 x803 x804 x805 x806 x807 x60))) else (none)) else (some 0)
def q27z.f (k : Nat) (a0_0 : Int) (a0_1 : Int) (l0_2 : List Int) (l0_3 : List Int) (a0_4 : Int) (a0_5 : Int) (a0_6 : Int) (a0_7 : Int) (a1_0 : Int) (a1_1 : Int) (l1_2 : List Int) (l1_3 : List Int) (a1_4 : Int) (a1_5 : Int) (a1_6 : Int) (a1_7 : Int) : Option (Int) := (q25z.f (wrap64 (a0_0)) (wrap64 (a1_0))).bind fun t3 => ((q25z.f a0_1 a1_1).bind fun t4 => ((q26z.f k l0_2 l1_2).bind fun t5 => ((q26z.f k l0_3 l1_3).bind fun t6 => ((q25z.f (wrap64 (a0_4)) (wrap64 (a1_4))).bind fun t7 => ((q25z.f (wrap64 (a0_5)) (wrap64 (a1_5))).bind fun t8 => ((q25z.f a0_6 a1_6).bind fun t9 => ((q25z.f (wrap64 (a0_7)) (wrap64 (a1_7))).bind fun t10 => (q27z.l0 k 0 t3 t4 t5 t6 t7 t8 t9 t10))))))))
theorem q27z.mono_l : ∀ k, (∀ y0 y1 y2 y3 y4 y5 y6 y7 y8, LeO (q27z.l0 k y0 y1 y2 y3 y4 y5 y6 y7 y8) (q27z.l0 (k + 1) y0 y1 y2 y3 y4 y5 y6 y7 y8))
 | 0 => fun _ _ _ _ _ _ _ _ _ r h => by simp [q27z.l0] at h
 | k + 1 => by
  have ih0 := q27z.mono_l k
  ·
   intro y0 y1 y2 y3 y4 y5 y6 y7 y8
   unfold q27z.l0
   repeat' first
   | (with_reducible exact ih0 _ _ _ _ _ _ _ _ _)
   | (with_reducible exact q26z.mono _ _ _)
   | (with_reducible exact LeO.refl _)
   | (with_reducible exact LeO.none _)
   | (with_reducible refine LeO.ite ?_ ?_)
   | (with_reducible refine LeO.bind ?_ (fun _ => ?_))
   | exact ih0 _ _ _ _ _ _ _ _ _
   | exact q26z.mono _ _ _
   | exact LeO.none _
   | refine LeO.ite ?_ ?_
   | refine LeO.bind ?_ (fun _ => ?_)
theorem q27z.mono : ∀ a0 a1 a2 a3 a4 a5 a6 a7 a8 a9 a10 a11 a12 a13 a14 a15 k, LeO (q27z.f k a0 a1 a2 a3 a4 a5 a6 a7 a8 a9 a10 a11 a12 a13 a14 a15) (q27z.f (k + 1) a0 a1 a2 a3 a4 a5 a6 a7 a8 a9 a10 a11 a12 a13 a14 a15) := by
 intro a0 a1 a2 a3 a4 a5 a6 a7 a8 a9 a10 a11 a12 a13 a14 a15 k
 have ih0 := q27z.mono_l k
 unfold q27z.f
 repeat' first
   | (with_reducible exact ih0 _ _ _ _ _ _ _ _ _)
   | (with_reducible exact q26z.mono _ _ _)
   | (with_reducible exact LeO.refl _)
   | (with_reducible exact LeO.none _)
   | (with_reducible refine LeO.ite ?_ ?_)
   | (with_reducible refine LeO.bind ?_ (fun _ => ?_))
   | exact ih0 _ _ _ _ _ _ _ _ _
   | exact q26z.mono _ _ _
   | exact LeO.none _
   | refine LeO.ite ?_ ?_
   | refine LeO.bind ?_ (fun _ => ?_)
def q27z.T1 : Bool × List (List Nat × List Nat) := (true, [([], []), ([0], [0]), ([1], [1]), ([2], [2]), ([], []), ([4], [4]), ([5], [5]), ([6], [6]), ([3, 7], [3, 7]), ([], []), ([9], [9]), ([10], [10]), ([], []), ([12], [12]), ([13], [13]), ([11, 14, 8], [11, 14]), ([], []), ([16], [16]), ([], []), ([18], [18]), ([17, 19, 15], [17, 19]), ([], []), ([21], [21]), ([], []), ([23], [23]), ([22, 24, 20], [22, 24]), ([], []), ([26], [26]), ([27], [27]), ([], []), ([29], [29]), ([30], [30]), ([28, 31, 25], [28, 31]), ([], []), ([33], [33]), ([34], [34]), ([], []), ([36], [36]), ([37], [37]), ([35, 38, 32], [35, 38]), ([], []), ([40], [40]), ([], []), ([42], [42]), ([41, 43, 39], [41, 43]), ([], []), ([45], [45]), ([46], [46]), ([], []), ([48], [48]), ([49], [49]), ([47, 50, 44], [47, 50]), ([8, 15, 20, 25, 32, 39, 44, 51], [8, 15, 20, 25, 32, 39, 44, 51]), ([], [])])
def q27z.B1 : List Nat := [0, 1, 3, 7, 0, 16, 48, 112, 255, 0, 512, 1536, 0, 4096, 12288, 32767, 0, 65536, 0, 262144, 1048575, 0, 2097152, 0, 8388608, 33554431, 0, 67108864, 201326592, 0, 536870912, 1610612736, 4294967295, 0, 8589934592, 25769803776, 0, 68719476736, 206158430208, 549755813887, 0, 1099511627776, 0, 4398046511104, 17592186044415, 0, 35184372088832, 105553116266496, 0, 281474976710656, 844424930131968, 2251799813685247, 4503599627370495, 0]
theorem q27z.tab1 : rtab .any (opsOf Try.f16 1) = q27z.T1 := by kernel_rfl
theorem q27z.bits1 : waitsOk q27z.T1.2 q27z.B1 = true := by kernel_rfl
set_option maxHeartbeats 8000000 in
set_option maxRecDepth 100000 in
theorem q27z.calls (k : Nat) (a0_0 : Int) (a0_1 : Int) (A0_2 : Option Addr) (c0_2 : Nat) (l0_2 : List Int) (A0_3 : Option Addr) (c0_3 : Nat) (l0_3 : List Int) (a0_4 : Int) (a0_5 : Int) (a0_6 : Int) (a0_7 : Int) (a1_0 : Int) (a1_1 : Int) (A1_2 : Option Addr) (c1_2 : Nat) (l1_2 : List Int) (A1_3 : Option Addr) (c1_3 : Nat) (l1_3 : List Int) (a1_4 : Int) (a1_5 : Int) (a1_6 : Int) (a1_7 : Int) (r : Int) (w : World) (hr0_2 : Kd.C (Kd.int .u32) w A0_2 l0_2.length l0_2) (hc0_2 : l0_2.length ≤ c0_2) (hr0_3 : Kd.C (Kd.int .u32) w A0_3 l0_3.length l0_3) (hc0_3 : l0_3.length ≤ c0_3) (hr1_2 : Kd.C (Kd.int .u32) w A1_2 l1_2.length l1_2) (hc1_2 : l1_2.length ≤ c1_2) (hr1_3 : Kd.C (Kd.int .u32) w A1_3 l1_3.length l1_3) (hc1_3 : l1_3.length ≤ c1_3) (h : q27z.f k a0_0 a0_1 l0_2 l0_3 a0_4 a0_5 a0_6 a0_7 a1_0 a1_1 l1_2 l1_3 a1_4 a1_5 a1_6 a1_7 = some r) :
  Calls Try.prog 16 #[.agg #[.int .u32 a0_0, .int .i64 a0_1, .slice A0_2 l0_2.length c0_2, .slice A0_3 l0_3.length c0_3, .int .u32 a0_4, .int .u32 a0_5, .int .i64 a0_6, .int .u32 a0_7], .agg #[.int .u32 a1_0, .int .i64 a1_1, .slice A1_2 l1_2.length c1_2, .slice A1_3 l1_3.length c1_3, .int .u32 a1_4, .int .u32 a1_5, .int .i64 a1_6, .int .u32 a1_7]] w fun e w' => e = .returned (.int .i64 r) ∧ Below w.heap.size w w' := by
 have hu30 := Try.underlying30
 have hu68 := Try.underlying68
 have HR0_2 := Aside0.mk hr0_2
 have HC0_2 := Aside0.mk hc0_2
 clear hr0_2 hc0_2
 have HR0_3 := Aside0.mk hr0_3
 have HC0_3 := Aside0.mk hc0_3
 clear hr0_3 hc0_3
 have HR1_2 := Aside0.mk hr1_2
 have HC1_2 := Aside0.mk hc1_2
 clear hr1_2 hc1_2
 have HR1_3 := Aside0.mk hr1_3
 have HC1_3 := Aside0.mk hc1_3
 clear hr1_3 hc1_3
 have HB := Aside0.mk (Below.refl w.heap.size w)
 have H : ((q25z.f (wrap64 (a0_0)) (wrap64 (a1_0))).bind fun t3 => ((q25z.f a0_1 a1_1).bind fun t4 => ((q26z.f k l0_2 l1_2).bind fun t5 => ((q26z.f k l0_3 l1_3).bind fun t6 => ((q25z.f (wrap64 (a0_4)) (wrap64 (a1_4))).bind fun t7 => ((q25z.f (wrap64 (a0_5)) (wrap64 (a1_5))).bind fun t8 => ((q25z.f a0_6 a1_6).bind fun t9 => ((q25z.f (wrap64 (a0_7)) (wrap64 (a1_7))).bind fun t10 => (q27z.l0 k 0 t3 t4 t5 t6 t7 t8 t9 t10))))))))) = some r := h
 clear h
 replace H := Option.bind_eq_some_iff.mp H
 obtain ⟨t3, A30, H⟩ := H
 replace H : ((q25z.f a0_1 a1_1).bind fun t4 => ((q26z.f k l0_2 l1_2).bind fun t5 => ((q26z.f k l0_3 l1_3).bind fun t6 => ((q25z.f (wrap64 (a0_4)) (wrap64 (a1_4))).bind fun t7 => ((q25z.f (wrap64 (a0_5)) (wrap64 (a1_5))).bind fun t8 => ((q25z.f a0_6 a1_6).bind fun t9 => ((q25z.f (wrap64 (a0_7)) (wrap64 (a1_7))).bind fun t10 => (q27z.l0 k 0 t3 t4 t5 t6 t7 t8 t9 t10)))))))) = some r := H
 have A3 := Aside0.mk A30
 clear A30
 replace H := Option.bind_eq_some_iff.mp H
 obtain ⟨t4, A40, H⟩ := H
 replace H : ((q26z.f k l0_2 l1_2).bind fun t5 => ((q26z.f k l0_3 l1_3).bind fun t6 => ((q25z.f (wrap64 (a0_4)) (wrap64 (a1_4))).bind fun t7 => ((q25z.f (wrap64 (a0_5)) (wrap64 (a1_5))).bind fun t8 => ((q25z.f a0_6 a1_6).bind fun t9 => ((q25z.f (wrap64 (a0_7)) (wrap64 (a1_7))).bind fun t10 => (q27z.l0 k 0 t3 t4 t5 t6 t7 t8 t9 t10))))))) = some r := H
 have A4 := Aside0.mk A40
 clear A40
 replace H := Option.bind_eq_some_iff.mp H
 obtain ⟨t5, A50, H⟩ := H
 replace H : ((q26z.f k l0_3 l1_3).bind fun t6 => ((q25z.f (wrap64 (a0_4)) (wrap64 (a1_4))).bind fun t7 => ((q25z.f (wrap64 (a0_5)) (wrap64 (a1_5))).bind fun t8 => ((q25z.f a0_6 a1_6).bind fun t9 => ((q25z.f (wrap64 (a0_7)) (wrap64 (a1_7))).bind fun t10 => (q27z.l0 k 0 t3 t4 t5 t6 t7 t8 t9 t10)))))) = some r := H
 have A5 := Aside0.mk A50
 clear A50
 replace H := Option.bind_eq_some_iff.mp H
 obtain ⟨t6, A60, H⟩ := H
 replace H : ((q25z.f (wrap64 (a0_4)) (wrap64 (a1_4))).bind fun t7 => ((q25z.f (wrap64 (a0_5)) (wrap64 (a1_5))).bind fun t8 => ((q25z.f a0_6 a1_6).bind fun t9 => ((q25z.f (wrap64 (a0_7)) (wrap64 (a1_7))).bind fun t10 => (q27z.l0 k 0 t3 t4 t5 t6 t7 t8 t9 t10))))) = some r := H
 have A6 := Aside0.mk A60
 clear A60
 replace H := Option.bind_eq_some_iff.mp H
 obtain ⟨t7, A70, H⟩ := H
 replace H : ((q25z.f (wrap64 (a0_5)) (wrap64 (a1_5))).bind fun t8 => ((q25z.f a0_6 a1_6).bind fun t9 => ((q25z.f (wrap64 (a0_7)) (wrap64 (a1_7))).bind fun t10 => (q27z.l0 k 0 t3 t4 t5 t6 t7 t8 t9 t10)))) = some r := H
 have A7 := Aside0.mk A70
 clear A70
 replace H := Option.bind_eq_some_iff.mp H
 obtain ⟨t8, A80, H⟩ := H
 replace H : ((q25z.f a0_6 a1_6).bind fun t9 => ((q25z.f (wrap64 (a0_7)) (wrap64 (a1_7))).bind fun t10 => (q27z.l0 k 0 t3 t4 t5 t6 t7 t8 t9 t10))) = some r := H
 have A8 := Aside0.mk A80
 clear A80
 replace H := Option.bind_eq_some_iff.mp H
 obtain ⟨t9, A90, H⟩ := H
 replace H : ((q25z.f (wrap64 (a0_7)) (wrap64 (a1_7))).bind fun t10 => (q27z.l0 k 0 t3 t4 t5 t6 t7 t8 t9 t10)) = some r := H
 have A9 := Aside0.mk A90
 clear A90
 replace H := Option.bind_eq_some_iff.mp H
 obtain ⟨t10, A100, H⟩ := H
 replace H : (q27z.l0 k 0 t3 t4 t5 t6 t7 t8 t9 t10) = some r := H
 have A10 := Aside0.mk A100
 clear A100
 have H' := Aside0.mk H
 clear H
 go_enter Try.func16, Try.ntmps16
 try go_wp2_with (first | ((with_reducible refine gate_dst (N := 2) rfl ?_); refine box_event ?hg (N := 2) ?hd (cs := #[.int .u32 a0_0, .int .i64 a0_1, .slice A0_2 l0_2.length c0_2, .slice A0_3 l0_3.length c0_3, .int .u32 a0_4, .int .u32 a0_5, .int .i64 a0_6, .int .u32 a0_7]) (t := 30) ?hr ?_; (case hd => rfl); (case hg => rfl); (case hr => first | (go_simp; done) | (go_simp; rfl)); intro gb1 hg w11 hbox hb; have BK1 := Aside0.mk (hbox); have GW1 := gwS hg HB; have GE1 := gwS hg HB; replace HB := hbS HB hb; clear hb hbox hg) | ((with_reducible refine gate_dst (N := 3) rfl ?_); refine box_event ?hg (N := 3) ?hd (cs := #[.int .u32 a1_0, .int .i64 a1_1, .slice A1_2 l1_2.length c1_2, .slice A1_3 l1_3.length c1_3, .int .u32 a1_4, .int .u32 a1_5, .int .i64 a1_6, .int .u32 a1_7]) (t := 30) ?hr ?_; (case hd => rfl); (case hg => rfl); (case hr => first | (go_simp; done) | (go_simp; rfl)); intro gb2 hg w12 hbox hb; have BK2 := Aside0.mk (hbox); have GW2 := gwS hg HB; have GE2 := gwS hg HB; have NB1_2 := nbL hg BK1; have NB2_1 := nbG hg BK1; replace BK1 := bkB BK1 hb; replace HB := hbS HB hb; clear hb hbox hg))
 replace BK1 := Aside0.mk (blk_drew BK1.out)
 replace BK2 := Aside0.mk (blk_drew BK2.out)
 replace HB := Aside0.mk (below_drew1 HB.out)
 refine start_ (n := 54) (S := fun w' => w'.cell? ⟨gb1, 0, none⟩ = some (.int .u32 a0_0) ∧ w'.cell? ⟨gb1, 1, none⟩ = some (.int .i64 a0_1) ∧ w'.cell? ⟨gb1, 2, none⟩ = some (.slice A0_2 l0_2.length c0_2) ∧ w'.cell? ⟨gb1, 3, none⟩ = some (.slice A0_3 l0_3.length c0_3) ∧ w'.cell? ⟨gb1, 4, none⟩ = some (.int .u32 a0_4) ∧ w'.cell? ⟨gb1, 5, none⟩ = some (.int .u32 a0_5) ∧ w'.cell? ⟨gb1, 6, none⟩ = some (.int .i64 a0_6) ∧ w'.cell? ⟨gb1, 7, none⟩ = some (.int .u32 a0_7) ∧ w'.cell? ⟨gb2, 0, none⟩ = some (.int .u32 a1_0) ∧ w'.cell? ⟨gb2, 1, none⟩ = some (.int .i64 a1_1) ∧ w'.cell? ⟨gb2, 2, none⟩ = some (.slice A1_2 l1_2.length c1_2) ∧ w'.cell? ⟨gb2, 3, none⟩ = some (.slice A1_3 l1_3.length c1_3) ∧ w'.cell? ⟨gb2, 4, none⟩ = some (.int .u32 a1_4) ∧ w'.cell? ⟨gb2, 5, none⟩ = some (.int .u32 a1_5) ∧ w'.cell? ⟨gb2, 6, none⟩ = some (.int .i64 a1_6) ∧ w'.cell? ⟨gb2, 7, none⟩ = some (.int .u32 a1_7)) (ds := []) #[false, false, false, false, false, false, false, false, false, false, false, false, false, false, false, false, false, false, false, false, false, false, false, false, false, false, false, false, false, false, false, false, false, false, false, false, false, false, false, false, false, false, false, false, false, false, false, false, false, false, false, false, false, false] (by kernel_rfl) rfl rfl (bk8 BK1 (bl8 BK2)) (fun hHeld => ?_); refine with_tabW q27z.tab1 q27z.bits1 (fun HT_ HW_ => ?_)
 generalize w12.drew = w13 at BK1 BK2 HB hHeld ⊢
 refine pure_ (i := 0) (N := some 7) (v := ?_) (a' := ?_) #[true, false, false, false, false, false, false, false, false, false, false, false, false, false, false, false, false, false, false, false, false, false, false, false, false, false, false, false, false, false, false, false, false, false, false, false, false, false, false, false, false, false, false, false, false, false, false, false, false, false, false, false, false, false] rfl rfl (any_of HT_.out (by kernel_rfl)) (fun _ _ _ h => h) (Or.inl ⟨by rfl, ?_⟩) ?_ ?_
 rotate_left
 ·
  intro w'
  go_simp
  with_reducible rfl
 rotate_left
 ·
  simp only [Act.put, List.setIfInBounds_toArray, List.set_cons_zero, List.set_cons_succ, i64_w, i32_w, IntKind.wrap_u32]
  rfl
 refine pure_ (i := 1) (N := some 8) (v := ?_) (a' := ?_) #[true, true, false, false, false, false, false, false, false, false, false, false, false, false, false, false, false, false, false, false, false, false, false, false, false, false, false, false, false, false, false, false, false, false, false, false, false, false, false, false, false, false, false, false, false, false, false, false, false, false, false, false, false, false] rfl rfl (any_of HT_.out (by kernel_rfl)) (fun _ _ _ h => h) (Or.inl ⟨by rfl, ?_⟩) ?_ ?_
 rotate_left
 ·
  intro w'
  go_simp
  with_reducible rfl
 rotate_left
 ·
  simp only [Act.put, List.setIfInBounds_toArray, List.set_cons_zero, List.set_cons_succ, i64_w, i32_w, IntKind.wrap_u32]
  rfl
 refine pure_ (i := 4) (N := some 11) (v := ?_) (a' := ?_) #[true, true, false, false, true, false, false, false, false, false, false, false, false, false, false, false, false, false, false, false, false, false, false, false, false, false, false, false, false, false, false, false, false, false, false, false, false, false, false, false, false, false, false, false, false, false, false, false, false, false, false, false, false, false] rfl rfl (any_of HT_.out (by kernel_rfl)) (fun _ _ _ h => h) (Or.inl ⟨by rfl, ?_⟩) ?_ ?_
 rotate_left
 ·
  intro w'
  go_simp
  with_reducible rfl
 rotate_left
 ·
  simp only [Act.put, List.setIfInBounds_toArray, List.set_cons_zero, List.set_cons_succ, i64_w, i32_w, IntKind.wrap_u32]
  rfl
 refine pure_ (i := 5) (N := some 12) (v := ?_) (a' := ?_) #[true, true, false, false, true, true, false, false, false, false, false, false, false, false, false, false, false, false, false, false, false, false, false, false, false, false, false, false, false, false, false, false, false, false, false, false, false, false, false, false, false, false, false, false, false, false, false, false, false, false, false, false, false, false] rfl rfl (any_of HT_.out (by kernel_rfl)) (fun _ _ _ h => h) (Or.inl ⟨by rfl, ?_⟩) ?_ ?_
 rotate_left
 ·
  intro w'
  go_simp
  with_reducible rfl
 rotate_left
 ·
  simp only [Act.put, List.setIfInBounds_toArray, List.set_cons_zero, List.set_cons_succ, i64_w, i32_w, IntKind.wrap_u32]
  rfl
 refine pure_ (i := 9) (N := some 16) (v := ?_) (a' := ?_) #[true, true, false, false, true, true, false, false, false, true, false, false, false, false, false, false, false, false, false, false, false, false, false, false, false, false, false, false, false, false, false, false, false, false, false, false, false, false, false, false, false, false, false, false, false, false, false, false, false, false, false, false, false, false] rfl rfl (any_of HT_.out (by kernel_rfl)) (fun _ _ _ h => h) (Or.inl ⟨by rfl, ?_⟩) ?_ ?_
 rotate_left
 ·
  intro w'
  go_simp
  with_reducible rfl
 rotate_left
 ·
  simp only [Act.put, List.setIfInBounds_toArray, List.set_cons_zero, List.set_cons_succ, i64_w, i32_w, IntKind.wrap_u32]
  rfl
 refine pure_ (i := 10) (N := some 17) (v := ?_) (a' := ?_) #[true, true, false, false, true, true, false, false, false, true, true, false, false, false, false, false, false, false, false, false, false, false, false, false, false, false, false, false, false, false, false, false, false, false, false, false, false, false, false, false, false, false, false, false, false, false, false, false, false, false, false, false, false, false] rfl rfl (any_of HT_.out (by kernel_rfl)) (fun _ _ _ h => h) (Or.inl ⟨by rfl, ?_⟩) ?_ ?_
 rotate_left
 ·
  intro w'
  go_simp
  with_reducible rfl
 rotate_left
 ·
  simp only [Act.put, List.setIfInBounds_toArray, List.set_cons_zero, List.set_cons_succ, i64_w, i32_w, IntKind.wrap_u32]
  rfl
 refine pure_ (i := 12) (N := some 19) (v := ?_) (a' := ?_) #[true, true, false, false, true, true, false, false, false, true, true, false, true, false, false, false, false, false, false, false, false, false, false, false, false, false, false, false, false, false, false, false, false, false, false, false, false, false, false, false, false, false, false, false, false, false, false, false, false, false, false, false, false, false] rfl rfl (any_of HT_.out (by kernel_rfl)) (fun _ _ _ h => h) (Or.inl ⟨by rfl, ?_⟩) ?_ ?_
 rotate_left
 ·
  intro w'
  go_simp
  with_reducible rfl
 rotate_left
 ·
  simp only [Act.put, List.setIfInBounds_toArray, List.set_cons_zero, List.set_cons_succ, i64_w, i32_w, IntKind.wrap_u32]
  rfl
 refine pure_ (i := 13) (N := some 20) (v := ?_) (a' := ?_) #[true, true, false, false, true, true, false, false, false, true, true, false, true, true, false, false, false, false, false, false, false, false, false, false, false, false, false, false, false, false, false, false, false, false, false, false, false, false, false, false, false, false, false, false, false, false, false, false, false, false, false, false, false, false] rfl rfl (any_of HT_.out (by kernel_rfl)) (fun _ _ _ h => h) (Or.inl ⟨by rfl, ?_⟩) ?_ ?_
 rotate_left
 ·
  intro w'
  go_simp
  with_reducible rfl
 rotate_left
 ·
  simp only [Act.put, List.setIfInBounds_toArray, List.set_cons_zero, List.set_cons_succ, i64_w, i32_w, IntKind.wrap_u32]
  rfl
 refine pure_ (i := 16) (N := some 23) (v := ?_) (a' := ?_) #[true, true, false, false, true, true, false, false, false, true, true, false, true, true, false, false, true, false, false, false, false, false, false, false, false, false, false, false, false, false, false, false, false, false, false, false, false, false, false, false, false, false, false, false, false, false, false, false, false, false, false, false, false, false] rfl rfl (any_of HT_.out (by kernel_rfl)) (fun _ _ _ h => h) (Or.inl ⟨by rfl, ?_⟩) ?_ ?_
 rotate_left
 ·
  intro w'
  go_simp
  with_reducible rfl
 rotate_left
 ·
  simp only [Act.put, List.setIfInBounds_toArray, List.set_cons_zero, List.set_cons_succ, i64_w, i32_w, IntKind.wrap_u32]
  rfl
 refine pure_ (i := 18) (N := some 25) (v := ?_) (a' := ?_) #[true, true, false, false, true, true, false, false, false, true, true, false, true, true, false, false, true, false, true, false, false, false, false, false, false, false, false, false, false, false, false, false, false, false, false, false, false, false, false, false, false, false, false, false, false, false, false, false, false, false, false, false, false, false] rfl rfl (any_of HT_.out (by kernel_rfl)) (fun _ _ _ h => h) (Or.inl ⟨by rfl, ?_⟩) ?_ ?_
 rotate_left
 ·
  intro w'
  go_simp
  with_reducible rfl
 rotate_left
 ·
  simp only [Act.put, List.setIfInBounds_toArray, List.set_cons_zero, List.set_cons_succ, i64_w, i32_w, IntKind.wrap_u32]
  rfl
 refine pure_ (i := 21) (N := some 28) (v := ?_) (a' := ?_) #[true, true, false, false, true, true, false, false, false, true, true, false, true, true, false, false, true, false, true, false, false, true, false, false, false, false, false, false, false, false, false, false, false, false, false, false, false, false, false, false, false, false, false, false, false, false, false, false, false, false, false, false, false, false] rfl rfl (any_of HT_.out (by kernel_rfl)) (fun _ _ _ h => h) (Or.inl ⟨by rfl, ?_⟩) ?_ ?_
 rotate_left
 ·
  intro w'
  go_simp
  with_reducible rfl
 rotate_left
 ·
  simp only [Act.put, List.setIfInBounds_toArray, List.set_cons_zero, List.set_cons_succ, i64_w, i32_w, IntKind.wrap_u32]
  rfl
 refine pure_ (i := 23) (N := some 30) (v := ?_) (a' := ?_) #[true, true, false, false, true, true, false, false, false, true, true, false, true, true, false, false, true, false, true, false, false, true, false, true, false, false, false, false, false, false, false, false, false, false, false, false, false, false, false, false, false, false, false, false, false, false, false, false, false, false, false, false, false, false] rfl rfl (any_of HT_.out (by kernel_rfl)) (fun _ _ _ h => h) (Or.inl ⟨by rfl, ?_⟩) ?_ ?_
 rotate_left
 ·
  intro w'
  go_simp
  with_reducible rfl
 rotate_left
 ·
  simp only [Act.put, List.setIfInBounds_toArray, List.set_cons_zero, List.set_cons_succ, i64_w, i32_w, IntKind.wrap_u32]
  rfl
 refine pure_ (i := 26) (N := some 33) (v := ?_) (a' := ?_) #[true, true, false, false, true, true, false, false, false, true, true, false, true, true, false, false, true, false, true, false, false, true, false, true, false, false, true, false, false, false, false, false, false, false, false, false, false, false, false, false, false, false, false, false, false, false, false, false, false, false, false, false, false, false] rfl rfl (any_of HT_.out (by kernel_rfl)) (fun _ _ _ h => h) (Or.inl ⟨by rfl, ?_⟩) ?_ ?_
 rotate_left
 ·
  intro w'
  go_simp
  with_reducible rfl
 rotate_left
 ·
  simp only [Act.put, List.setIfInBounds_toArray, List.set_cons_zero, List.set_cons_succ, i64_w, i32_w, IntKind.wrap_u32]
  rfl
 refine pure_ (i := 29) (N := some 36) (v := ?_) (a' := ?_) #[true, true, false, false, true, true, false, false, false, true, true, false, true, true, false, false, true, false, true, false, false, true, false, true, false, false, true, false, false, true, false, false, false, false, false, false, false, false, false, false, false, false, false, false, false, false, false, false, false, false, false, false, false, false] rfl rfl (any_of HT_.out (by kernel_rfl)) (fun _ _ _ h => h) (Or.inl ⟨by rfl, ?_⟩) ?_ ?_
 rotate_left
 ·
  intro w'
  go_simp
  with_reducible rfl
 rotate_left
 ·
  simp only [Act.put, List.setIfInBounds_toArray, List.set_cons_zero, List.set_cons_succ, i64_w, i32_w, IntKind.wrap_u32]
  rfl
 refine pure_ (i := 33) (N := some 40) (v := ?_) (a' := ?_) #[true, true, false, false, true, true, false, false, false, true, true, false, true, true, false, false, true, false, true, false, false, true, false, true, false, false, true, false, false, true, false, false, false, true, false, false, false, false, false, false, false, false, false, false, false, false, false, false, false, false, false, false, false, false] rfl rfl (any_of HT_.out (by kernel_rfl)) (fun _ _ _ h => h) (Or.inl ⟨by rfl, ?_⟩) ?_ ?_
 rotate_left
 ·
  intro w'
  go_simp
  with_reducible rfl
 rotate_left
 ·
  simp only [Act.put, List.setIfInBounds_toArray, List.set_cons_zero, List.set_cons_succ, i64_w, i32_w, IntKind.wrap_u32]
  rfl
 refine pure_ (i := 36) (N := some 43) (v := ?_) (a' := ?_) #[true, true, false, false, true, true, false, false, false, true, true, false, true, true, false, false, true, false, true, false, false, true, false, true, false, false, true, false, false, true, false, false, false, true, false, false, true, false, false, false, false, false, false, false, false, false, false, false, false, false, false, false, false, false] rfl rfl (any_of HT_.out (by kernel_rfl)) (fun _ _ _ h => h) (Or.inl ⟨by rfl, ?_⟩) ?_ ?_
 rotate_left
 ·
  intro w'
  go_simp
  with_reducible rfl
 rotate_left
 ·
  simp only [Act.put, List.setIfInBounds_toArray, List.set_cons_zero, List.set_cons_succ, i64_w, i32_w, IntKind.wrap_u32]
  rfl
 refine pure_ (i := 40) (N := some 47) (v := ?_) (a' := ?_) #[true, true, false, false, true, true, false, false, false, true, true, false, true, true, false, false, true, false, true, false, false, true, false, true, false, false, true, false, false, true, false, false, false, true, false, false, true, false, false, false, true, false, false, false, false, false, false, false, false, false, false, false, false, false] rfl rfl (any_of HT_.out (by kernel_rfl)) (fun _ _ _ h => h) (Or.inl ⟨by rfl, ?_⟩) ?_ ?_
 rotate_left
 ·
  intro w'
  go_simp
  with_reducible rfl
 rotate_left
 ·
  simp only [Act.put, List.setIfInBounds_toArray, List.set_cons_zero, List.set_cons_succ, i64_w, i32_w, IntKind.wrap_u32]
  rfl
 refine pure_ (i := 42) (N := some 49) (v := ?_) (a' := ?_) #[true, true, false, false, true, true, false, false, false, true, true, false, true, true, false, false, true, false, true, false, false, true, false, true, false, false, true, false, false, true, false, false, false, true, false, false, true, false, false, false, true, false, true, false, false, false, false, false, false, false, false, false, false, false] rfl rfl (any_of HT_.out (by kernel_rfl)) (fun _ _ _ h => h) (Or.inl ⟨by rfl, ?_⟩) ?_ ?_
 rotate_left
 ·
  intro w'
  go_simp
  with_reducible rfl
 rotate_left
 ·
  simp only [Act.put, List.setIfInBounds_toArray, List.set_cons_zero, List.set_cons_succ, i64_w, i32_w, IntKind.wrap_u32]
  rfl
 refine pure_ (i := 45) (N := some 52) (v := ?_) (a' := ?_) #[true, true, false, false, true, true, false, false, false, true, true, false, true, true, false, false, true, false, true, false, false, true, false, true, false, false, true, false, false, true, false, false, false, true, false, false, true, false, false, false, true, false, true, false, false, true, false, false, false, false, false, false, false, false] rfl rfl (any_of HT_.out (by kernel_rfl)) (fun _ _ _ h => h) (Or.inl ⟨by rfl, ?_⟩) ?_ ?_
 rotate_left
 ·
  intro w'
  go_simp
  with_reducible rfl
 rotate_left
 ·
  simp only [Act.put, List.setIfInBounds_toArray, List.set_cons_zero, List.set_cons_succ, i64_w, i32_w, IntKind.wrap_u32]
  rfl
 refine pure_ (i := 48) (N := some 55) (v := ?_) (a' := ?_) #[true, true, false, false, true, true, false, false, false, true, true, false, true, true, false, false, true, false, true, false, false, true, false, true, false, false, true, false, false, true, false, false, false, true, false, false, true, false, false, false, true, false, true, false, false, true, false, false, true, false, false, false, false, false] rfl rfl (any_of HT_.out (by kernel_rfl)) (fun _ _ _ h => h) (Or.inl ⟨by rfl, ?_⟩) ?_ ?_
 rotate_left
 ·
  intro w'
  go_simp
  with_reducible rfl
 rotate_left
 ·
  simp only [Act.put, List.setIfInBounds_toArray, List.set_cons_zero, List.set_cons_succ, i64_w, i32_w, IntKind.wrap_u32]
  rfl
 refine pure_ (i := 53) (N := some 60) (v := ?_) (a' := ?_) #[true, true, false, false, true, true, false, false, false, true, true, false, true, true, false, false, true, false, true, false, false, true, false, true, false, false, true, false, false, true, false, false, false, true, false, false, true, false, false, false, true, false, true, false, false, true, false, false, true, false, false, false, false, true] rfl rfl (any_of HT_.out (by kernel_rfl)) (fun _ _ _ h => h) (Or.inl ⟨by rfl, ?_⟩) ?_ ?_
 rotate_left
 ·
  intro w'
  go_simp
  with_reducible rfl
 rotate_left
 ·
  simp only [Act.put, List.setIfInBounds_toArray, List.set_cons_zero, List.set_cons_succ, i64_w, i32_w, IntKind.wrap_u32]
  rfl
 refine take_ (i := 2) (N := some 9) (v := ?_) (a' := ?_) #[true, true, true, false, true, true, false, false, false, true, true, false, true, true, false, false, true, false, true, false, false, true, false, true, false, false, true, false, false, true, false, false, false, true, false, false, true, false, false, false, true, false, true, false, false, true, false, false, true, false, false, false, false, true] rfl rfl (take_ofW HT_.out HW_.out (by kernel_rfl)) (fun _ _ _ h => h) (Or.inl ⟨by rfl, ?_⟩) hHeld ?_ ?_
 rotate_left
 ·
  rintro w' ⟨s0, s1, s2, s3, s4, s5, s6, s7, s8, s9, s10, s11, s12, s13, s14, s15⟩
  go_simp
  with_reducible rfl
 rotate_left
 ·
  simp only [Act.put, List.setIfInBounds_toArray, List.set_cons_zero, List.set_cons_succ, i64_w, i32_w, IntKind.wrap_u32]
  rfl
 refine pure_ (i := 3) (N := some 10) (v := ?_) (a' := ?_) #[true, true, true, true, true, true, false, false, false, true, true, false, true, true, false, false, true, false, true, false, false, true, false, true, false, false, true, false, false, true, false, false, false, true, false, false, true, false, false, false, true, false, true, false, false, true, false, false, true, false, false, false, false, true] rfl rfl (any_of HT_.out (by kernel_rfl)) (fun _ _ _ h => h) (Or.inl ⟨by rfl, ?_⟩) ?_ ?_
 rotate_left
 ·
  intro w'
  go_simp
  with_reducible rfl
 rotate_left
 ·
  simp only [Act.put, List.setIfInBounds_toArray, List.set_cons_zero, List.set_cons_succ, i64_w, i32_w, IntKind.wrap_u32]
  rfl
 refine take_ (i := 6) (N := some 13) (v := ?_) (a' := ?_) #[true, true, true, true, true, true, true, false, false, true, true, false, true, true, false, false, true, false, true, false, false, true, false, true, false, false, true, false, false, true, false, false, false, true, false, false, true, false, false, false, true, false, true, false, false, true, false, false, true, false, false, false, false, true] rfl rfl (take_ofW HT_.out HW_.out (by kernel_rfl)) (fun _ _ _ h => h) (Or.inl ⟨by rfl, ?_⟩) hHeld ?_ ?_
 rotate_left
 ·
  rintro w' ⟨s0, s1, s2, s3, s4, s5, s6, s7, s8, s9, s10, s11, s12, s13, s14, s15⟩
  go_simp
  with_reducible rfl
 rotate_left
 ·
  simp only [Act.put, List.setIfInBounds_toArray, List.set_cons_zero, List.set_cons_succ, i64_w, i32_w, IntKind.wrap_u32]
  rfl
 refine pure_ (i := 7) (N := some 14) (v := ?_) (a' := ?_) #[true, true, true, true, true, true, true, true, false, true, true, false, true, true, false, false, true, false, true, false, false, true, false, true, false, false, true, false, false, true, false, false, false, true, false, false, true, false, false, false, true, false, true, false, false, true, false, false, true, false, false, false, false, true] rfl rfl (any_of HT_.out (by kernel_rfl)) (fun _ _ _ h => h) (Or.inl ⟨by rfl, ?_⟩) ?_ ?_
 rotate_left
 ·
  intro w'
  go_simp
  with_reducible rfl
 rotate_left
 ·
  simp only [Act.put, List.setIfInBounds_toArray, List.set_cons_zero, List.set_cons_succ, i64_w, i32_w, IntKind.wrap_u32]
  rfl
 refine take_ (i := 11) (N := some 18) (v := ?_) (a' := ?_) #[true, true, true, true, true, true, true, true, false, true, true, true, true, true, false, false, true, false, true, false, false, true, false, true, false, false, true, false, false, true, false, false, false, true, false, false, true, false, false, false, true, false, true, false, false, true, false, false, true, false, false, false, false, true] rfl rfl (take_ofW HT_.out HW_.out (by kernel_rfl)) (fun _ _ _ h => h) (Or.inl ⟨by rfl, ?_⟩) hHeld ?_ ?_
 rotate_left
 ·
  rintro w' ⟨s0, s1, s2, s3, s4, s5, s6, s7, s8, s9, s10, s11, s12, s13, s14, s15⟩
  go_simp
  with_reducible rfl
 rotate_left
 ·
  simp only [Act.put, List.setIfInBounds_toArray, List.set_cons_zero, List.set_cons_succ, i64_w, i32_w, IntKind.wrap_u32]
  rfl
 refine take_ (i := 14) (N := some 21) (v := ?_) (a' := ?_) #[true, true, true, true, true, true, true, true, false, true, true, true, true, true, true, false, true, false, true, false, false, true, false, true, false, false, true, false, false, true, false, false, false, true, false, false, true, false, false, false, true, false, true, false, false, true, false, false, true, false, false, false, false, true] rfl rfl (take_ofW HT_.out HW_.out (by kernel_rfl)) (fun _ _ _ h => h) (Or.inl ⟨by rfl, ?_⟩) hHeld ?_ ?_
 rotate_left
 ·
  rintro w' ⟨s0, s1, s2, s3, s4, s5, s6, s7, s8, s9, s10, s11, s12, s13, s14, s15⟩
  go_simp
  with_reducible rfl
 rotate_left
 ·
  simp only [Act.put, List.setIfInBounds_toArray, List.set_cons_zero, List.set_cons_succ, i64_w, i32_w, IntKind.wrap_u32]
  rfl
 refine take_ (i := 17) (N := some 24) (v := ?_) (a' := ?_) #[true, true, true, true, true, true, true, true, false, true, true, true, true, true, true, false, true, true, true, false, false, true, false, true, false, false, true, false, false, true, false, false, false, true, false, false, true, false, false, false, true, false, true, false, false, true, false, false, true, false, false, false, false, true] rfl rfl (take_ofW HT_.out HW_.out (by kernel_rfl)) (fun _ _ _ h => h) (Or.inl ⟨by rfl, ?_⟩) hHeld ?_ ?_
 rotate_left
 ·
  rintro w' ⟨s0, s1, s2, s3, s4, s5, s6, s7, s8, s9, s10, s11, s12, s13, s14, s15⟩
  go_simp
  with_reducible rfl
 rotate_left
 ·
  simp only [Act.put, List.setIfInBounds_toArray, List.set_cons_zero, List.set_cons_succ, i64_w, i32_w, IntKind.wrap_u32]
  rfl
 refine take_ (i := 19) (N := some 26) (v := ?_) (a' := ?_) #[true, true, true, true, true, true, true, true, false, true, true, true, true, true, true, false, true, true, true, true, false, true, false, true, false, false, true, false, false, true, false, false, false, true, false, false, true, false, false, false, true, false, true, false, false, true, false, false, true, false, false, false, false, true] rfl rfl (take_ofW HT_.out HW_.out (by kernel_rfl)) (fun _ _ _ h => h) (Or.inl ⟨by rfl, ?_⟩) hHeld ?_ ?_
 rotate_left
 ·
  rintro w' ⟨s0, s1, s2, s3, s4, s5, s6, s7, s8, s9, s10, s11, s12, s13, s14, s15⟩
  go_simp
  with_reducible rfl
 rotate_left
 ·
  simp only [Act.put, List.setIfInBounds_toArray, List.set_cons_zero, List.set_cons_succ, i64_w, i32_w, IntKind.wrap_u32]
  rfl
 refine take_ (i := 22) (N := some 29) (v := ?_) (a' := ?_) #[true, true, true, true, true, true, true, true, false, true, true, true, true, true, true, false, true, true, true, true, false, true, true, true, false, false, true, false, false, true, false, false, false, true, false, false, true, false, false, false, true, false, true, false, false, true, false, false, true, false, false, false, false, true] rfl rfl (take_ofW HT_.out HW_.out (by kernel_rfl)) (fun _ _ _ h => h) (Or.inl ⟨by rfl, ?_⟩) hHeld ?_ ?_
 rotate_left
 ·
  rintro w' ⟨s0, s1, s2, s3, s4, s5, s6, s7, s8, s9, s10, s11, s12, s13, s14, s15⟩
  go_simp
  with_reducible rfl
 rotate_left
 ·
  simp only [Act.put, List.setIfInBounds_toArray, List.set_cons_zero, List.set_cons_succ, i64_w, i32_w, IntKind.wrap_u32]
  rfl
 refine take_ (i := 24) (N := some 31) (v := ?_) (a' := ?_) #[true, true, true, true, true, true, true, true, false, true, true, true, true, true, true, false, true, true, true, true, false, true, true, true, true, false, true, false, false, true, false, false, false, true, false, false, true, false, false, false, true, false, true, false, false, true, false, false, true, false, false, false, false, true] rfl rfl (take_ofW HT_.out HW_.out (by kernel_rfl)) (fun _ _ _ h => h) (Or.inl ⟨by rfl, ?_⟩) hHeld ?_ ?_
 rotate_left
 ·
  rintro w' ⟨s0, s1, s2, s3, s4, s5, s6, s7, s8, s9, s10, s11, s12, s13, s14, s15⟩
  go_simp
  with_reducible rfl
 rotate_left
 ·
  simp only [Act.put, List.setIfInBounds_toArray, List.set_cons_zero, List.set_cons_succ, i64_w, i32_w, IntKind.wrap_u32]
  rfl
 refine take_ (i := 27) (N := some 34) (v := ?_) (a' := ?_) #[true, true, true, true, true, true, true, true, false, true, true, true, true, true, true, false, true, true, true, true, false, true, true, true, true, false, true, true, false, true, false, false, false, true, false, false, true, false, false, false, true, false, true, false, false, true, false, false, true, false, false, false, false, true] rfl rfl (take_ofW HT_.out HW_.out (by kernel_rfl)) (fun _ _ _ h => h) (Or.inl ⟨by rfl, ?_⟩) hHeld ?_ ?_
 rotate_left
 ·
  rintro w' ⟨s0, s1, s2, s3, s4, s5, s6, s7, s8, s9, s10, s11, s12, s13, s14, s15⟩
  go_simp
  with_reducible rfl
 rotate_left
 ·
  simp only [Act.put, List.setIfInBounds_toArray, List.set_cons_zero, List.set_cons_succ, i64_w, i32_w, IntKind.wrap_u32]
  rfl
 refine pure_ (i := 28) (N := some 35) (v := ?_) (a' := ?_) #[true, true, true, true, true, true, true, true, false, true, true, true, true, true, true, false, true, true, true, true, false, true, true, true, true, false, true, true, true, true, false, false, false, true, false, false, true, false, false, false, true, false, true, false, false, true, false, false, true, false, false, false, false, true] rfl rfl (any_of HT_.out (by kernel_rfl)) (fun _ _ _ h => h) (Or.inl ⟨by rfl, ?_⟩) ?_ ?_
 rotate_left
 ·
  intro w'
  go_simp
  with_reducible rfl
 rotate_left
 ·
  simp only [Act.put, List.setIfInBounds_toArray, List.set_cons_zero, List.set_cons_succ, i64_w, i32_w, IntKind.wrap_u32]
  rfl
 refine take_ (i := 30) (N := some 37) (v := ?_) (a' := ?_) #[true, true, true, true, true, true, true, true, false, true, true, true, true, true, true, false, true, true, true, true, false, true, true, true, true, false, true, true, true, true, true, false, false, true, false, false, true, false, false, false, true, false, true, false, false, true, false, false, true, false, false, false, false, true] rfl rfl (take_ofW HT_.out HW_.out (by kernel_rfl)) (fun _ _ _ h => h) (Or.inl ⟨by rfl, ?_⟩) hHeld ?_ ?_
 rotate_left
 ·
  rintro w' ⟨s0, s1, s2, s3, s4, s5, s6, s7, s8, s9, s10, s11, s12, s13, s14, s15⟩
  go_simp
  with_reducible rfl
 rotate_left
 ·
  simp only [Act.put, List.setIfInBounds_toArray, List.set_cons_zero, List.set_cons_succ, i64_w, i32_w, IntKind.wrap_u32]
  rfl
 refine pure_ (i := 31) (N := some 38) (v := ?_) (a' := ?_) #[true, true, true, true, true, true, true, true, false, true, true, true, true, true, true, false, true, true, true, true, false, true, true, true, true, false, true, true, true, true, true, true, false, true, false, false, true, false, false, false, true, false, true, false, false, true, false, false, true, false, false, false, false, true] rfl rfl (any_of HT_.out (by kernel_rfl)) (fun _ _ _ h => h) (Or.inl ⟨by rfl, ?_⟩) ?_ ?_
 rotate_left
 ·
  intro w'
  go_simp
  with_reducible rfl
 rotate_left
 ·
  simp only [Act.put, List.setIfInBounds_toArray, List.set_cons_zero, List.set_cons_succ, i64_w, i32_w, IntKind.wrap_u32]
  rfl
 refine take_ (i := 34) (N := some 41) (v := ?_) (a' := ?_) #[true, true, true, true, true, true, true, true, false, true, true, true, true, true, true, false, true, true, true, true, false, true, true, true, true, false, true, true, true, true, true, true, false, true, true, false, true, false, false, false, true, false, true, false, false, true, false, false, true, false, false, false, false, true] rfl rfl (take_ofW HT_.out HW_.out (by kernel_rfl)) (fun _ _ _ h => h) (Or.inl ⟨by rfl, ?_⟩) hHeld ?_ ?_
 rotate_left
 ·
  rintro w' ⟨s0, s1, s2, s3, s4, s5, s6, s7, s8, s9, s10, s11, s12, s13, s14, s15⟩
  go_simp
  with_reducible rfl
 rotate_left
 ·
  simp only [Act.put, List.setIfInBounds_toArray, List.set_cons_zero, List.set_cons_succ, i64_w, i32_w, IntKind.wrap_u32]
  rfl
 refine pure_ (i := 35) (N := some 42) (v := ?_) (a' := ?_) #[true, true, true, true, true, true, true, true, false, true, true, true, true, true, true, false, true, true, true, true, false, true, true, true, true, false, true, true, true, true, true, true, false, true, true, true, true, false, false, false, true, false, true, false, false, true, false, false, true, false, false, false, false, true] rfl rfl (any_of HT_.out (by kernel_rfl)) (fun _ _ _ h => h) (Or.inl ⟨by rfl, ?_⟩) ?_ ?_
 rotate_left
 ·
  intro w'
  go_simp
  with_reducible rfl
 rotate_left
 ·
  simp only [Act.put, List.setIfInBounds_toArray, List.set_cons_zero, List.set_cons_succ, i64_w, i32_w, IntKind.wrap_u32]
  rfl
 refine take_ (i := 37) (N := some 44) (v := ?_) (a' := ?_) #[true, true, true, true, true, true, true, true, false, true, true, true, true, true, true, false, true, true, true, true, false, true, true, true, true, false, true, true, true, true, true, true, false, true, true, true, true, true, false, false, true, false, true, false, false, true, false, false, true, false, false, false, false, true] rfl rfl (take_ofW HT_.out HW_.out (by kernel_rfl)) (fun _ _ _ h => h) (Or.inl ⟨by rfl, ?_⟩) hHeld ?_ ?_
 rotate_left
 ·
  rintro w' ⟨s0, s1, s2, s3, s4, s5, s6, s7, s8, s9, s10, s11, s12, s13, s14, s15⟩
  go_simp
  with_reducible rfl
 rotate_left
 ·
  simp only [Act.put, List.setIfInBounds_toArray, List.set_cons_zero, List.set_cons_succ, i64_w, i32_w, IntKind.wrap_u32]
  rfl
 refine pure_ (i := 38) (N := some 45) (v := ?_) (a' := ?_) #[true, true, true, true, true, true, true, true, false, true, true, true, true, true, true, false, true, true, true, true, false, true, true, true, true, false, true, true, true, true, true, true, false, true, true, true, true, true, true, false, true, false, true, false, false, true, false, false, true, false, false, false, false, true] rfl rfl (any_of HT_.out (by kernel_rfl)) (fun _ _ _ h => h) (Or.inl ⟨by rfl, ?_⟩) ?_ ?_
 rotate_left
 ·
  intro w'
  go_simp
  with_reducible rfl
 rotate_left
 ·
  simp only [Act.put, List.setIfInBounds_toArray, List.set_cons_zero, List.set_cons_succ, i64_w, i32_w, IntKind.wrap_u32]
  rfl
 refine take_ (i := 41) (N := some 48) (v := ?_) (a' := ?_) #[true, true, true, true, true, true, true, true, false, true, true, true, true, true, true, false, true, true, true, true, false, true, true, true, true, false, true, true, true, true, true, true, false, true, true, true, true, true, true, false, true, true, true, false, false, true, false, false, true, false, false, false, false, true] rfl rfl (take_ofW HT_.out HW_.out (by kernel_rfl)) (fun _ _ _ h => h) (Or.inl ⟨by rfl, ?_⟩) hHeld ?_ ?_
 rotate_left
 ·
  rintro w' ⟨s0, s1, s2, s3, s4, s5, s6, s7, s8, s9, s10, s11, s12, s13, s14, s15⟩
  go_simp
  with_reducible rfl
 rotate_left
 ·
  simp only [Act.put, List.setIfInBounds_toArray, List.set_cons_zero, List.set_cons_succ, i64_w, i32_w, IntKind.wrap_u32]
  rfl
 refine take_ (i := 43) (N := some 50) (v := ?_) (a' := ?_) #[true, true, true, true, true, true, true, true, false, true, true, true, true, true, true, false, true, true, true, true, false, true, true, true, true, false, true, true, true, true, true, true, false, true, true, true, true, true, true, false, true, true, true, true, false, true, false, false, true, false, false, false, false, true] rfl rfl (take_ofW HT_.out HW_.out (by kernel_rfl)) (fun _ _ _ h => h) (Or.inl ⟨by rfl, ?_⟩) hHeld ?_ ?_
 rotate_left
 ·
  rintro w' ⟨s0, s1, s2, s3, s4, s5, s6, s7, s8, s9, s10, s11, s12, s13, s14, s15⟩
  go_simp
  with_reducible rfl
 rotate_left
 ·
  simp only [Act.put, List.setIfInBounds_toArray, List.set_cons_zero, List.set_cons_succ, i64_w, i32_w, IntKind.wrap_u32]
  rfl
 refine take_ (i := 46) (N := some 53) (v := ?_) (a' := ?_) #[true, true, true, true, true, true, true, true, false, true, true, true, true, true, true, false, true, true, true, true, false, true, true, true, true, false, true, true, true, true, true, true, false, true, true, true, true, true, true, false, true, true, true, true, false, true, true, false, true, false, false, false, false, true] rfl rfl (take_ofW HT_.out HW_.out (by kernel_rfl)) (fun _ _ _ h => h) (Or.inl ⟨by rfl, ?_⟩) hHeld ?_ ?_
 rotate_left
 ·
  rintro w' ⟨s0, s1, s2, s3, s4, s5, s6, s7, s8, s9, s10, s11, s12, s13, s14, s15⟩
  go_simp
  with_reducible rfl
 rotate_left
 ·
  simp only [Act.put, List.setIfInBounds_toArray, List.set_cons_zero, List.set_cons_succ, i64_w, i32_w, IntKind.wrap_u32]
  rfl
 refine pure_ (i := 47) (N := some 54) (v := ?_) (a' := ?_) #[true, true, true, true, true, true, true, true, false, true, true, true, true, true, true, false, true, true, true, true, false, true, true, true, true, false, true, true, true, true, true, true, false, true, true, true, true, true, true, false, true, true, true, true, false, true, true, true, true, false, false, false, false, true] rfl rfl (any_of HT_.out (by kernel_rfl)) (fun _ _ _ h => h) (Or.inl ⟨by rfl, ?_⟩) ?_ ?_
 rotate_left
 ·
  intro w'
  go_simp
  with_reducible rfl
 rotate_left
 ·
  simp only [Act.put, List.setIfInBounds_toArray, List.set_cons_zero, List.set_cons_succ, i64_w, i32_w, IntKind.wrap_u32]
  rfl
 refine take_ (i := 49) (N := some 56) (v := ?_) (a' := ?_) #[true, true, true, true, true, true, true, true, false, true, true, true, true, true, true, false, true, true, true, true, false, true, true, true, true, false, true, true, true, true, true, true, false, true, true, true, true, true, true, false, true, true, true, true, false, true, true, true, true, true, false, false, false, true] rfl rfl (take_ofW HT_.out HW_.out (by kernel_rfl)) (fun _ _ _ h => h) (Or.inl ⟨by rfl, ?_⟩) hHeld ?_ ?_
 rotate_left
 ·
  rintro w' ⟨s0, s1, s2, s3, s4, s5, s6, s7, s8, s9, s10, s11, s12, s13, s14, s15⟩
  go_simp
  with_reducible rfl
 rotate_left
 ·
  simp only [Act.put, List.setIfInBounds_toArray, List.set_cons_zero, List.set_cons_succ, i64_w, i32_w, IntKind.wrap_u32]
  rfl
 refine pure_ (i := 50) (N := some 57) (v := ?_) (a' := ?_) #[true, true, true, true, true, true, true, true, false, true, true, true, true, true, true, false, true, true, true, true, false, true, true, true, true, false, true, true, true, true, true, true, false, true, true, true, true, true, true, false, true, true, true, true, false, true, true, true, true, true, true, false, false, true] rfl rfl (any_of HT_.out (by kernel_rfl)) (fun _ _ _ h => h) (Or.inl ⟨by rfl, ?_⟩) ?_ ?_
 rotate_left
 ·
  intro w'
  go_simp
  with_reducible rfl
 rotate_left
 ·
  simp only [Act.put, List.setIfInBounds_toArray, List.set_cons_zero, List.set_cons_succ, i64_w, i32_w, IntKind.wrap_u32]
  rfl
 refine one_ (i := 8) (N := some 15) #[true, true, true, true, true, true, true, true, true, true, true, true, true, true, true, false, true, true, true, true, false, true, true, true, true, false, true, true, true, true, true, true, false, true, true, true, true, true, true, false, true, true, true, true, false, true, true, true, true, true, true, false, false, true] rfl rfl (one_of HT_.out (by kernel_rfl)) (by decide) (fun K hK => ?_)
 refine goes_ Try.func35 (by kernel_rfl) rfl #[.int .i64 (wrap64 (a0_0)), .int .i64 (wrap64 (a1_0))] (by rfl) rfl rfl (by (try simp only [List.map_toArray, List.map_cons, List.map_nil]); first | done | rfl | (simp only [List.length_drop, List.length_take]; rfl)) ?_
 with_reducible refine (q25z.calls (wrap64 (a0_0)) (wrap64 (a1_0)) t3 _ A3.out).mono ?_
 rintro e w' ⟨rfl, ⟨nd, rfl⟩⟩
 refine ⟨_, rfl, ?_⟩
 refine hK.out _ _ (bk8 BK1 (bl8 BK2)) (fun hHeld => ?_)
 clear hK K
 refine norm_ (a' := ?_) ?_ ?_
 rotate_left
 ·
  show Act.put _ (some 15) _ = _
  simp only [Act.put, List.setIfInBounds_toArray, List.set_cons_zero, List.set_cons_succ, i64_w, i32_w, IntKind.wrap_u32]
  rfl
 refine one_ (i := 15) (N := some 22) #[true, true, true, true, true, true, true, true, true, true, true, true, true, true, true, true, true, true, true, true, false, true, true, true, true, false, true, true, true, true, true, true, false, true, true, true, true, true, true, false, true, true, true, true, false, true, true, true, true, true, true, false, false, true] rfl rfl (one_of HT_.out (by kernel_rfl)) (by decide) (fun K hK => ?_)
 refine goes_ Try.func35 (by kernel_rfl) rfl #[.int .i64 a0_1, .int .i64 a1_1] (by rfl) rfl rfl (by (try simp only [List.map_toArray, List.map_cons, List.map_nil]); first | done | rfl | (simp only [List.length_drop, List.length_take]; rfl)) ?_
 with_reducible refine (q25z.calls a0_1 a1_1 t4 _ A4.out).mono ?_
 rintro e w' ⟨rfl, ⟨nd, rfl⟩⟩
 refine ⟨_, rfl, ?_⟩
 refine hK.out _ _ (bk8 BK1 (bl8 BK2)) (fun hHeld => ?_)
 clear hK K
 refine norm_ (a' := ?_) ?_ ?_
 rotate_left
 ·
  show Act.put _ (some 22) _ = _
  simp only [Act.put, List.setIfInBounds_toArray, List.set_cons_zero, List.set_cons_succ, i64_w, i32_w, IntKind.wrap_u32]
  rfl
 refine one_ (i := 20) (N := some 27) #[true, true, true, true, true, true, true, true, true, true, true, true, true, true, true, true, true, true, true, true, true, true, true, true, true, false, true, true, true, true, true, true, false, true, true, true, true, true, true, false, true, true, true, true, false, true, true, true, true, true, true, false, false, true] rfl rfl (one_of HT_.out (by kernel_rfl)) (by decide) (fun K hK => ?_)
 refine goes_ Try.func36 (by kernel_rfl) rfl #[.slice A0_2 l0_2.length c0_2, .slice A1_2 l1_2.length c1_2] (by rfl) rfl rfl (by (try simp only [List.map_toArray, List.map_cons, List.map_nil]); first | done | rfl | (simp only [List.length_drop, List.length_take]; rfl)) ?_
 with_reducible refine (q26z.calls k _ _ l0_2 _ _ l1_2 t5 _ ?side1 ?side2 ?side3 ?side4 A5.out).mono ?_
 (case side1 => repeat (first | exact (Kd.C_below HR0_2.out (hbW HB)) | (with_reducible refine Kd.C_alloc ?_ _) | (with_reducible refine Kd.C_drewN ?_ _) | (with_reducible refine Kd.C_drew ?_)))
 (case side2 => exact HC0_2.out)
 (case side3 => repeat (first | exact (Kd.C_below HR1_2.out (hbW HB)) | (with_reducible refine Kd.C_alloc ?_ _) | (with_reducible refine Kd.C_drewN ?_ _) | (with_reducible refine Kd.C_drew ?_)))
 (case side4 => exact HC1_2.out)
 rintro e w' ⟨rfl, ⟨nd, rfl⟩⟩
 refine ⟨_, rfl, ?_⟩
 refine hK.out _ _ (bk8 BK1 (bl8 BK2)) (fun hHeld => ?_)
 clear hK K
 refine norm_ (a' := ?_) ?_ ?_
 rotate_left
 ·
  show Act.put _ (some 27) _ = _
  simp only [Act.put, List.setIfInBounds_toArray, List.set_cons_zero, List.set_cons_succ, i64_w, i32_w, IntKind.wrap_u32]
  rfl
 refine one_ (i := 25) (N := some 32) #[true, true, true, true, true, true, true, true, true, true, true, true, true, true, true, true, true, true, true, true, true, true, true, true, true, true, true, true, true, true, true, true, false, true, true, true, true, true, true, false, true, true, true, true, false, true, true, true, true, true, true, false, false, true] rfl rfl (one_of HT_.out (by kernel_rfl)) (by decide) (fun K hK => ?_)
 refine goes_ Try.func36 (by kernel_rfl) rfl #[.slice A0_3 l0_3.length c0_3, .slice A1_3 l1_3.length c1_3] (by rfl) rfl rfl (by (try simp only [List.map_toArray, List.map_cons, List.map_nil]); first | done | rfl | (simp only [List.length_drop, List.length_take]; rfl)) ?_
 with_reducible refine (q26z.calls k _ _ l0_3 _ _ l1_3 t6 _ ?side1 ?side2 ?side3 ?side4 A6.out).mono ?_
 (case side1 => repeat (first | exact (Kd.C_below HR0_3.out (hbW HB)) | (with_reducible refine Kd.C_alloc ?_ _) | (with_reducible refine Kd.C_drewN ?_ _) | (with_reducible refine Kd.C_drew ?_)))
 (case side2 => exact HC0_3.out)
 (case side3 => repeat (first | exact (Kd.C_below HR1_3.out (hbW HB)) | (with_reducible refine Kd.C_alloc ?_ _) | (with_reducible refine Kd.C_drewN ?_ _) | (with_reducible refine Kd.C_drew ?_)))
 (case side4 => exact HC1_3.out)
 rintro e w' ⟨rfl, ⟨nd, rfl⟩⟩
 refine ⟨_, rfl, ?_⟩
 refine hK.out _ _ (bk8 BK1 (bl8 BK2)) (fun hHeld => ?_)
 clear hK K
 refine norm_ (a' := ?_) ?_ ?_
 rotate_left
 ·
  show Act.put _ (some 32) _ = _
  simp only [Act.put, List.setIfInBounds_toArray, List.set_cons_zero, List.set_cons_succ, i64_w, i32_w, IntKind.wrap_u32]
  rfl
 refine one_ (i := 32) (N := some 39) #[true, true, true, true, true, true, true, true, true, true, true, true, true, true, true, true, true, true, true, true, true, true, true, true, true, true, true, true, true, true, true, true, true, true, true, true, true, true, true, false, true, true, true, true, false, true, true, true, true, true, true, false, false, true] rfl rfl (one_of HT_.out (by kernel_rfl)) (by decide) (fun K hK => ?_)
 refine goes_ Try.func35 (by kernel_rfl) rfl #[.int .i64 (wrap64 (a0_4)), .int .i64 (wrap64 (a1_4))] (by rfl) rfl rfl (by (try simp only [List.map_toArray, List.map_cons, List.map_nil]); first | done | rfl | (simp only [List.length_drop, List.length_take]; rfl)) ?_
 with_reducible refine (q25z.calls (wrap64 (a0_4)) (wrap64 (a1_4)) t7 _ A7.out).mono ?_
 rintro e w' ⟨rfl, ⟨nd, rfl⟩⟩
 refine ⟨_, rfl, ?_⟩
 refine hK.out _ _ (bk8 BK1 (bl8 BK2)) (fun hHeld => ?_)
 clear hK K
 refine norm_ (a' := ?_) ?_ ?_
 rotate_left
 ·
  show Act.put _ (some 39) _ = _
  simp only [Act.put, List.setIfInBounds_toArray, List.set_cons_zero, List.set_cons_succ, i64_w, i32_w, IntKind.wrap_u32]
  rfl
 refine one_ (i := 39) (N := some 46) #[true, true, true, true, true, true, true, true, true, true, true, true, true, true, true, true, true, true, true, true, true, true, true, true, true, true, true, true, true, true, true, true, true, true, true, true, true, true, true, true, true, true, true, true, false, true, true, true, true, true, true, false, false, true] rfl rfl (one_of HT_.out (by kernel_rfl)) (by decide) (fun K hK => ?_)
 refine goes_ Try.func35 (by kernel_rfl) rfl #[.int .i64 (wrap64 (a0_5)), .int .i64 (wrap64 (a1_5))] (by rfl) rfl rfl (by (try simp only [List.map_toArray, List.map_cons, List.map_nil]); first | done | rfl | (simp only [List.length_drop, List.length_take]; rfl)) ?_
 with_reducible refine (q25z.calls (wrap64 (a0_5)) (wrap64 (a1_5)) t8 _ A8.out).mono ?_
 rintro e w' ⟨rfl, ⟨nd, rfl⟩⟩
 refine ⟨_, rfl, ?_⟩
 refine hK.out _ _ (bk8 BK1 (bl8 BK2)) (fun hHeld => ?_)
 clear hK K
 refine norm_ (a' := ?_) ?_ ?_
 rotate_left
 ·
  show Act.put _ (some 46) _ = _
  simp only [Act.put, List.setIfInBounds_toArray, List.set_cons_zero, List.set_cons_succ, i64_w, i32_w, IntKind.wrap_u32]
  rfl
 refine one_ (i := 44) (N := some 51) #[true, true, true, true, true, true, true, true, true, true, true, true, true, true, true, true, true, true, true, true, true, true, true, true, true, true, true, true, true, true, true, true, true, true, true, true, true, true, true, true, true, true, true, true, true, true, true, true, true, true, true, false, false, true] rfl rfl (one_of HT_.out (by kernel_rfl)) (by decide) (fun K hK => ?_)
 refine goes_ Try.func35 (by kernel_rfl) rfl #[.int .i64 a0_6, .int .i64 a1_6] (by rfl) rfl rfl (by (try simp only [List.map_toArray, List.map_cons, List.map_nil]); first | done | rfl | (simp only [List.length_drop, List.length_take]; rfl)) ?_
 with_reducible refine (q25z.calls a0_6 a1_6 t9 _ A9.out).mono ?_
 rintro e w' ⟨rfl, ⟨nd, rfl⟩⟩
 refine ⟨_, rfl, ?_⟩
 refine hK.out _ _ (bk8 BK1 (bl8 BK2)) (fun hHeld => ?_)
 clear hK K
 refine norm_ (a' := ?_) ?_ ?_
 rotate_left
 ·
  show Act.put _ (some 51) _ = _
  simp only [Act.put, List.setIfInBounds_toArray, List.set_cons_zero, List.set_cons_succ, i64_w, i32_w, IntKind.wrap_u32]
  rfl
 refine one_ (i := 51) (N := some 58) #[true, true, true, true, true, true, true, true, true, true, true, true, true, true, true, true, true, true, true, true, true, true, true, true, true, true, true, true, true, true, true, true, true, true, true, true, true, true, true, true, true, true, true, true, true, true, true, true, true, true, true, true, false, true] rfl rfl (one_of HT_.out (by kernel_rfl)) (by decide) (fun K hK => ?_)
 refine goes_ Try.func35 (by kernel_rfl) rfl #[.int .i64 (wrap64 (a0_7)), .int .i64 (wrap64 (a1_7))] (by rfl) rfl rfl (by (try simp only [List.map_toArray, List.map_cons, List.map_nil]); first | done | rfl | (simp only [List.length_drop, List.length_take]; rfl)) ?_
 with_reducible refine (q25z.calls (wrap64 (a0_7)) (wrap64 (a1_7)) t10 _ A10.out).mono ?_
 rintro e w' ⟨rfl, ⟨nd, rfl⟩⟩
 refine ⟨_, rfl, ?_⟩
 refine hK.out _ _ (bk8 BK1 (bl8 BK2)) (fun hHeld => ?_)
 clear hK K
 refine norm_ (a' := ?_) ?_ ?_
 rotate_left
 ·
  show Act.put _ (some 58) _ = _
  simp only [Act.put, List.setIfInBounds_toArray, List.set_cons_zero, List.set_cons_succ, i64_w, i32_w, IntKind.wrap_u32]
  rfl
 refine pure_ (i := 52) (N := some 59) (v := ?_) (a' := ?_) #[true, true, true, true, true, true, true, true, true, true, true, true, true, true, true, true, true, true, true, true, true, true, true, true, true, true, true, true, true, true, true, true, true, true, true, true, true, true, true, true, true, true, true, true, true, true, true, true, true, true, true, true, true, true] rfl rfl (any_of HT_.out (by kernel_rfl)) (fun _ _ _ h => h) (Or.inl ⟨by rfl, ?_⟩) ?_ ?_
 rotate_left
 ·
  intro w'
  go_simp
  with_reducible rfl
 rotate_left
 ·
  simp only [Act.put, List.setIfInBounds_toArray, List.set_cons_zero, List.set_cons_succ, i64_w, i32_w, IntKind.wrap_u32]
  rfl
 refine done_ (done_of HT_.out (by kernel_rfl)) ?_
 try go_wp2
 go_loopg [60] k (fun kq v60 w' => ∃ (x60_1 : Int), v60 = .int .i64 x60_1 ∧ Aside0 (q27z.l0 kq x60_1 t3 t4 t5 t6 t7 t8 t9 t10 = some r) ∧ Aside0 (kq ≤ k) ∧ Aside0 (w'.heap[gb1]? = some (.cells #[.int .u32 a0_0, .int .i64 a0_1, (.slice A0_2 l0_2.length c0_2), (.slice A0_3 l0_3.length c0_3), .int .u32 a0_4, .int .u32 a0_5, .int .i64 a0_6, .int .u32 a0_7] 30 (0, 0))) ∧ Aside0 (w'.heap[gb2]? = some (.cells #[.int .u32 a1_0, .int .i64 a1_1, (.slice A1_2 l1_2.length c1_2), (.slice A1_3 l1_3.length c1_3), .int .u32 a1_4, .int .u32 a1_5, .int .i64 a1_6, .int .u32 a1_7] 30 (0, 0))) ∧ Aside0 (Below w.heap.size w w'))
 case atStart => exact ⟨(0), (by first | rfl | (simp; done) | (simp [*]; done)), H', ⟨Nat.le_refl _⟩, ⟨by (with_reducible repeat (first | refine blk_drewN ?_ _ | refine blk_drew ?_ | refine blk_alloc ?_ _)); exact BK1.out⟩, ⟨by (with_reducible repeat (first | refine blk_drewN ?_ _ | refine blk_drew ?_ | refine blk_alloc ?_ _)); exact BK2.out⟩, ⟨hbW HB⟩⟩
 case round =>
  clear H'
  try clear c1
  try clear p2
  try clear c3
  try clear p6
  obtain ⟨x60_1, rfl, HA, HK1, BK1, BK2, HB⟩ := hrel
  cases gk with
  | zero => exact absurd HA.out (by simp [q27z.l0])
  | succ k1 =>
   have H := HA.out
   clear HA
   simp only [q27z.l0] at H
   by_cases c14 : x60_1 < 8
   ·
    rw [if_pos c14] at H
    have c14b0 : decide (x60_1 < 8) = true := decide_eq_true c14
    clear c14
    by_cases c15 : 0 ≤ x60_1
    ·
     rw [if_pos c15] at H
     have c15b0 : decide (0 ≤ x60_1) = true := decide_eq_true c15
     clear c15
     by_cases c17 : (arrA68 t3 t4 t5 t6 t7 t8 t9 t10 x60_1) = 0
     ·
      rw [if_pos c17] at H
      have c17b0 : ((arrA68 t3 t4 t5 t6 t7 t8 t9 t10 x60_1) == 0) = true := beq_iff_eq.mpr c17
      have c17b1 : ((arrA68 t3 t4 t5 t6 t7 t8 t9 t10 x60_1) != 0) = false := bne_eq_false_iff_eq.mpr c17
      clear c17
      have H' := Aside0.mk H
      clear H
      have p16 : 0 ≤ (x60_1 : Int) := of_decide_eq_true (by first | (with_reducible assumption) | assumption)
      have q16 : x60_1 < (8 : Int) := of_decide_eq_true (by first | (with_reducible assumption) | assumption)
      have hx16 := arrA68_run t3 t4 t5 t6 t7 t8 t9 t10 x60_1 p16 q16
      replace p16 := eq_true p16
      replace q16 := eq_true q16
      go_wp2
      go_roundg k1
      case measure => have := HK1.out; omega
      case rel => exact ⟨(wrap64 (x60_1 + 1)), (by first | rfl | (simp; done) | (simp [*]; done)), H', ⟨by have := HK1.out; omega⟩, ⟨by (with_reducible repeat (first | refine blk_drewN ?_ _ | refine blk_drew ?_ | refine blk_alloc ?_ _)); exact BK1.out⟩, ⟨by (with_reducible repeat (first | refine blk_drewN ?_ _ | refine blk_drew ?_ | refine blk_alloc ?_ _)); exact BK2.out⟩, ⟨hbW HB⟩⟩
     ·
      rw [if_neg c17] at H
      have c17b0 : ((arrA68 t3 t4 t5 t6 t7 t8 t9 t10 x60_1) == 0) = false := beq_eq_false_iff_ne.mpr c17
      have c17b1 : ((arrA68 t3 t4 t5 t6 t7 t8 t9 t10 x60_1) != 0) = true := bne_iff_ne.mpr c17
      obtain rfl := Option.some.inj H
      have p16 : 0 ≤ (x60_1 : Int) := of_decide_eq_true (by first | (with_reducible assumption) | assumption)
      have q16 : x60_1 < (8 : Int) := of_decide_eq_true (by first | (with_reducible assumption) | assumption)
      have hx16 := arrA68_run t3 t4 t5 t6 t7 t8 t9 t10 x60_1 p16 q16
      replace p16 := eq_true p16
      replace q16 := eq_true q16
      go_wp2
      go_ret
      exact ⟨by first | rfl | (simp [errW_none, errW_some] <;> rfl) | (simp [*, errW_none, errW_some] <;> rfl), hbW HB⟩
    ·
     rw [if_neg c15] at H
     exact absurd H (by simp)
   ·
    rw [if_neg c14] at H
    have c14b0 : decide (x60_1 < 8) = false := decide_eq_false c14
    clear c14
    obtain rfl := Option.some.inj H
    go_wp2
    go_ret
    exact ⟨by first | rfl | (simp [errW_none, errW_some] <;> rfl) | (simp [*, errW_none, errW_some] <;> rfl), hbW HB⟩

end Go.Proofs.Ytgelpccjdndfoaa.P
namespace Go.Proofs.Ytgelpccjdndfoaa.P
open Go.RowKit Go.Proofs.YtgelpccjdndfoaaW.PrintWords Go.Proofs.YtgelpccjdndfoaaW.PrintMore
theorem wr (i : Int) (h0 : -9223372036854775808 ≤ i) (h1 : i ≤ 9223372036854775807) : wrap64 i = i := by unfold wrap64; omega
theorem wrN (i : Nat) (h : i < 9223372036854775807) : wrap64 ((i : Int) + 1) = ((i + 1 : Nat) : Int) := by rw [wr _ (by omega) (by omega)]; omega
theorem rdI (l : List Int) (i : Nat) (h : i < l.length) : rd l (i : Int) = l[i] := by
  unfold rd
  rw [Int.toNat_natCast, List.getD_eq_getElem?_getD, List.getElem?_eq_getElem h]
  rfl
def U32 (a : Int) : Prop := 0 ≤ a ∧ a ≤ 4294967295
def I64 (a : Int) : Prop := -9223372036854775808 ≤ a ∧ a ≤ 9223372036854775807
theorem u32_of {a : Int} (h : (Lit.int .u32 a).wf = true) : U32 a := by
  simp [Lit.wf, IntKind.min, IntKind.max, IntKind.signed, IntKind.bits] at h
  unfold U32
  omega
theorem i64_of {a : Int} (h : (Lit.int .i64 a).wf = true) : I64 a := by
  simp [Lit.wf, IntKind.min, IntKind.max, IntKind.signed, IntKind.bits] at h
  unfold I64
  omega
theorem U32.wr {a : Int} (h : U32 a) : wrap64 a = a := by obtain ⟨h0, h1⟩ := h; exact Go.Proofs.Ytgelpccjdndfoaa.P.wr a (by omega) (by omega)
/-- A list of numbers of 32 bits, no longer than memory has it. -/
def LU (l : List Int) : Prop := l.length ≤ 9223372036854775807 ∧ ∀ z ∈ l, U32 z
theorem lu_of {l : List Int} (h : l.length ≤ 9223372036854775807 ∧ ∀ z_ ∈ l, (Lit.int .u32 z_).wf = true) : LU l := ⟨h.1, fun z hz => u32_of (h.2 z hz)⟩
/-- What an order's answer has. -/
structure Ord {α : Type} (c : α → α → Int) : Prop where
  rng : ∀ a b, c a b = -1 ∨ c a b = 0 ∨ c a b = 1
  anti : ∀ a b, c b a = - c a b
  eq0 : ∀ a b, c a b = 0 → a = b
  trans : ∀ a b d, c a b ≤ 0 → c b d ≤ 0 → c a d ≤ 0
def lex {α β : Type} (c1 : α → α → Int) (c2 : β → β → Int) (a b : α × β) : Int := if c1 a.1 b.1 = 0 then c2 a.2 b.2 else c1 a.1 b.1
theorem Ord.lex {α β : Type} {c1 : α → α → Int} {c2 : β → β → Int} (h1 : Ord c1) (h2 : Ord c2) : Ord (lex c1 c2) where
  rng a b := by unfold P.lex; split; exact h2.rng _ _; exact h1.rng _ _
  anti a b := by
    unfold P.lex
    have e := h1.anti a.1 b.1
    by_cases h : c1 a.1 b.1 = 0
    · rw [if_pos h, if_pos (by omega)]; exact h2.anti _ _
    · rw [if_neg h, if_neg (by omega)]; exact e
  eq0 a b h := by
    unfold P.lex at h
    by_cases h0 : c1 a.1 b.1 = 0
    · rw [if_pos h0] at h
      exact Prod.ext (h1.eq0 _ _ h0) (h2.eq0 _ _ h)
    · rw [if_neg h0] at h; exact absurd h h0
  trans a b d ha hb := by
    unfold P.lex at *
    by_cases e1 : c1 a.1 b.1 = 0
    · rw [if_pos e1] at ha
      rw [h1.eq0 _ _ e1]
      by_cases e2 : c1 b.1 d.1 = 0
      · rw [if_pos e2] at hb ⊢; exact h2.trans _ _ _ ha hb
      · rw [if_neg e2] at hb ⊢; exact hb
    · rw [if_neg e1] at ha
      by_cases e2 : c1 b.1 d.1 = 0
      · rw [if_pos e2] at hb
        rw [← h1.eq0 _ _ e2, if_neg e1]; exact ha
      · rw [if_neg e2] at hb
        have t := h1.trans _ _ _ ha hb
        by_cases e3 : c1 a.1 d.1 = 0
        · have := h1.eq0 _ _ e3
          have := h1.anti a.1 b.1
          rw [← h1.eq0 _ _ e3] at hb
          omega
        · rw [if_neg e3]; exact t
abbrev R8 := Int × Int × List Int × List Int × Int × Int × Int × Int
theorem drop_ge (l : List Int) (i : Nat) (h : l.length ≤ i) : l.drop i = [] := List.drop_eq_nil_of_le h
/-- What a route's cells may hold. -/
def RU (a : R8) : Prop := U32 a.1 ∧ I64 a.2.1 ∧ LU a.2.2.1 ∧ LU a.2.2.2.1 ∧ U32 a.2.2.2.2.1 ∧ U32 a.2.2.2.2.2.1 ∧ I64 a.2.2.2.2.2.2.1 ∧ U32 a.2.2.2.2.2.2.2
end Go.Proofs.Ytgelpccjdndfoaa.P
namespace Go.Proofs.Ytgelpccjdndfoaa.P
open Go.RowKit Go.Proofs.YtgelpccjdndfoaaW.PrintWords
/-! Eventually: facts of callees used at the same round. -/
theorem Ev.use {α β : Type} {g : Nat → Option α} {F G : Nat → Option β} {a : α} {r : β} (h : Ev g a) (hG : Ev G r) (hF : ∀ k, g k = some a → F (k + 1) = G k) : Ev F r := by
  obtain ⟨K, h⟩ := h
  obtain ⟨K', hG⟩ := hG
  refine ⟨max K K' + 1, fun n hn => ?_⟩
  obtain ⟨m, rfl⟩ : ∃ m, n = m + 1 := ⟨n - 1, by omega⟩
  rw [hF m (h m (by omega))]
  exact hG m (by omega)
/-- The same without a step. -/
theorem Ev.with {α β : Type} {g : Nat → Option α} {F G : Nat → Option β} {a : α} {r : β} (h : Ev g a) (hG : Ev G r) (hF : ∀ k, g k = some a → F k = G k) : Ev F r := by
  obtain ⟨K, h⟩ := h
  obtain ⟨K', hG⟩ := hG
  exact ⟨max K K', fun n hn => by rw [hF n (h n (by omega))]; exact hG n (by omega)⟩
theorem Ev.with2 {α α' β : Type} {g : Nat → Option α} {g' : Nat → Option α'} {F G : Nat → Option β} {a : α} {a' : α'} {r : β} (h : Ev g a) (h' : Ev g' a') (hG : Ev G r) (hF : ∀ k, g k = some a → g' k = some a' → F k = G k) : Ev F r := by
  obtain ⟨K, h⟩ := h
  obtain ⟨K2, h'⟩ := h'
  obtain ⟨K', hG⟩ := hG
  exact ⟨max (max K K2) K', fun n hn => by rw [hF n (h n (by omega)) (h' n (by omega))]; exact hG n (by omega)⟩
/-- The last step. -/
theorem Ev.last {β : Type} {F : Nat → Option β} {r : β} (hF : ∀ k, F (k + 1) = some r) : Ev F r := ⟨1, fun n hn => by
  obtain ⟨m, rfl⟩ : ∃ m, n = m + 1 := ⟨n - 1, by omega⟩
  exact hF m⟩
/-- As a pair, of two. -/
theorem Ev.and {α α' : Type} {g : Nat → Option α} {g' : Nat → Option α'} {a : α} {a' : α'} (h : Ev g a) (h' : Ev g' a') : ∃ K, ∀ k, K ≤ k → g k = some a ∧ g' k = some a' := by
  obtain ⟨K, h⟩ := h
  obtain ⟨K2, h'⟩ := h'
  exact ⟨max K K2, fun k hk => ⟨h k (by omega), h' k (by omega)⟩⟩
end Go.Proofs.Ytgelpccjdndfoaa.P
namespace Go.Proofs.Ytgelpccjdndfoaa.P
open Go.RowKit Go.Proofs.YtgelpccjdndfoaaW.PrintWords Go.Proofs.YtgelpccjdndfoaaW.PrintMore
/-! Lists of communities: what the code and the document say. -/
def BoxU (b : S50) : Prop := U32 b.f0 ∧ U32 b.f1
theorem boxU_of {b : S50} (h : good50 b) : BoxU b := ⟨u32_of h.1, u32_of h.2⟩
def inS (n : Int) (s : S50) : Bool := inB s.f0.toNat s.f1.toNat n.toNat
theorem u32_nat {a : Int} (h : U32 a) : ∃ n : Nat, a = (n : Int) ∧ n < 4294967296 := ⟨a.toNat, by have := h.1; omega, by have := h.2; have := h.1; omega⟩
theorem in_f (b : S50) (hb : BoxU b) (c : Int) (hc : U32 c) : plane_In.f b.f0 b.f1 c = some (inS c b) := by
  have h1 : u32B b.f0 = true := by unfold u32B; have := hb.1; unfold U32 at this; simp; omega
  have h2 : u32B b.f1 = true := by unfold u32B; have := hb.2; unfold U32 at this; simp; omega
  have h3 : u32B c = true := by unfold u32B; unfold U32 at hc; simp; omega
  unfold plane_In.f
  rw [h1, h2, h3, if_pos (by rfl)]
  rfl
theorem refIn_f (b : S50) (hb : BoxU b) (c : Int) (hc : U32 c) : q10z.f b.f0 b.f1 c = some (inS c b) := by
  obtain ⟨lo, e1, h1⟩ := u32_nat hb.1
  obtain ⟨hi, e2, h2⟩ := u32_nat hb.2
  obtain ⟨c, rfl, h3⟩ := u32_nat hc
  unfold inS
  rw [e1, e2]
  simp only [Int.toNat_natCast]
  unfold q10z.f inB withinN
  rw [quoN lo h1, quoN hi h2, quoN c h3, remN lo, remN hi, remN c]
  by_cases c1 : lo / 65536 ≤ c / 65536
  · rw [if_pos (by omega), decide_eq_true c1, Bool.true_and]
    by_cases c2 : c / 65536 ≤ hi / 65536
    · rw [if_pos (by omega), decide_eq_true c2, Bool.true_and]
      by_cases c3 : lo % 65536 ≤ c % 65536
      · rw [if_pos (by omega), decide_eq_true c3, Bool.true_and]
        congr 1
        rw [decide_eq_decide]
        omega
      · rw [if_neg (by omega), decide_eq_false c3, Bool.false_and]
    · rw [if_neg (by omega), decide_eq_false c2]
      simp
  · rw [if_neg (by omega), decide_eq_false c1, Bool.false_and]
def hasB (b : S50) (cs : List Int) : Bool := cs.any (fun c => inS c b)
def allB (l : List S50) (cs : List Int) : Bool := l.all (fun b => hasB b cs)
def takesB : List S53 → List Int → Bool
  | [], _ => false
  | e :: l, cs => if allB e.f1 cs = true then !e.f0 else takesB l cs
def EntU (e : S53) : Prop := e.f1.length ≤ 9223372036854775807 ∧ ∀ b ∈ e.f1, BoxU b
def ComU (l : List S53) : Prop := l.length ≤ 9223372036854775807 ∧ ∀ e ∈ l, EntU e
theorem comU_of {l : List S53} (h : l.length ≤ 9223372036854775807 ∧ ∀ z_ ∈ l, good53 z_) : ComU l := ⟨h.1, fun e he => ⟨(h.2 e he).2.1, fun b hb => boxU_of ((h.2 e he).2.2 b hb)⟩⟩
theorem has_f (b : S50) (hb : BoxU b) (cs : List Int) (hc : LU cs) : cond_has.f b.f0 b.f1 cs = some (hasB b cs) := by
  unfold cond_has.f
  rw [if_pos hc.1]
  exact anyM_some _ _ cs (fun c h => in_f b hb c (hc.2 c h))
theorem not_any_not {α : Type} (l : List α) (p : α → Bool) : (!l.any (fun b => !p b)) = l.all p := by
  induction l with
  | nil => rfl
  | cons a l ih => simp only [List.any_cons, List.all_cons, Bool.not_or, Bool.not_not, ih]
theorem ent_f (e : S53) (he : EntU e) (cs : List Int) (hc : LU cs) : entM cs e = some (allB e.f1 cs) := by
  unfold entM
  rw [if_pos he.1, anyM_some _ (fun b => !hasB b cs) e.f1 (fun b hb => by rw [has_f b (he.2 b hb) cs hc]; rfl), Option.map_some, not_any_not]
  rfl
theorem takes_f0 (cs : List Int) (hc : LU cs) : ∀ l : List S53, (∀ e ∈ l, EntU e) → takesM cs l = some (takesB l cs)
  | [], _ => rfl
  | e :: l, h => by
    simp only [takesM, takesB]
    rw [ent_f e (h e List.mem_cons_self) cs hc, Option.bind_some]
    cases allB e.f1 cs with
    | true => rfl
    | false => simp only [Bool.false_eq_true, if_false]; exact takes_f0 cs hc l (fun x hx => h x (List.mem_cons_of_mem _ hx))
theorem takes_f (l : List S53) (hl : ComU l) (cs : List Int) (hc : LU cs) : cond_TakesComms.f l cs = some (takesB l cs) := by
  unfold cond_TakesComms.f
  rw [if_pos hl.1]
  exact takes_f0 cs hc l hl.2
/-! The document's. -/
theorem rdB (l : List S50) (i : Nat) (h : i < l.length) : rd_T50 l (i : Int) = l[i] := by
  unfold rd_T50
  rw [Int.toNat_natCast, List.getD_eq_getElem?_getD, List.getElem?_eq_getElem h]
  rfl
theorem all_l1 (cs : List Int) (hc : LU cs) (b : S50) (hb : BoxU b) (l : List S50) (n i : Int) (R : Bool) : ∀ (d j : Nat) (g : Bool), j + d = cs.length →
    Ev (fun k => if (g || (cs.drop j).any (fun c => inS c b)) = true then q11z.l0 k cs l n (wrap64 (i + 1)) else some false) R →
    Ev (fun k => q11z.l1 k cs g l n i cs (cs.length : Int) (j : Int) b.f0 b.f1) R
  | 0, j, g, hj, h => by
    rw [List.drop_eq_nil_of_le (by omega), List.any_nil, Bool.or_false] at h
    refine Ev.step (fun k => ?_) h
    simp only [q11z.l1]
    rw [if_neg (by omega)]
  | d + 1, j, g, hj, h => by
    have hjl : j < cs.length := by omega
    have hlen := hc.1
    have hrd := rdI cs j hjl
    have hu := hc.2 cs[j] (List.getElem_mem hjl)
    rw [List.drop_eq_getElem_cons hjl, List.any_cons] at h
    generalize cs[j] = c at hrd hu h
    have ih := all_l1 cs hc b hb l n i R d (j + 1) (g || inS c b) (by omega) (by simpa only [Bool.or_assoc] using h)
    cases g with
    | true =>
      rw [Bool.true_or] at ih
      refine Ev.step (fun k => ?_) ih
      simp only [q11z.l1, if_true]
      rw [if_pos (by omega), if_pos (by omega), if_pos (by omega), wrN j (by omega)]
    | false =>
      rw [Bool.false_or] at ih
      refine Ev.step (fun k => ?_) ih
      simp only [q11z.l1, Bool.false_eq_true, if_false]
      rw [if_pos (by omega), if_pos (by omega), if_pos (by omega), hrd, refIn_f b hb c hu, Option.bind_some, wrN j (by omega)]
theorem all_l0 (cs : List Int) (hc : LU cs) (l : List S50) (hl : l.length ≤ 9223372036854775807) (hb : ∀ b ∈ l, BoxU b) : ∀ (d i : Nat), i + d = l.length →
    Ev (fun k => q11z.l0 k cs l (l.length : Int) (i : Int)) (allB (l.drop i) cs)
  | 0, i, hi => by
    rw [List.drop_eq_nil_of_le (by omega)]
    refine Ev.last (fun k => ?_)
    simp only [q11z.l0]
    rw [if_neg (by omega)]
    rfl
  | d + 1, i, hi => by
    have hil : i < l.length := by omega
    have hrd := rdB l i hil
    have hu := hb l[i] (List.getElem_mem hil)
    have ih := all_l0 cs hc l hl hb d (i + 1) (by omega)
    rw [List.drop_eq_getElem_cons hil]
    generalize l[i] = b at hrd hu
    have hab : allB (b :: l.drop (i + 1)) cs = (hasB b cs && allB (l.drop (i + 1)) cs) := rfl
    rw [hab]
    have h1 := all_l1 cs hc b hu l (l.length : Int) (i : Int) (hasB b cs && allB (l.drop (i + 1)) cs) cs.length 0 false (by omega) (by
      rw [List.drop_zero, Bool.false_or]
      change Ev (fun k => if hasB b cs = true then _ else _) _
      cases hasB b cs with
      | true =>
        simp only [if_true, Bool.true_and]
        rw [wrN i (by omega)]
        exact ih
      | false => exact Ev.now _)
    refine Ev.step (fun k => ?_) h1
    simp only [q11z.l0]
    rw [if_pos (by omega), if_pos (by omega), if_pos (by omega), hrd]
    rfl
theorem refAll_ev (e : S53) (he : EntU e) (cs : List Int) (hc : LU cs) : Ev (fun k => q11z.f k e.f1 cs) (allB e.f1 cs) := by
  have h := all_l0 cs hc e.f1 he.1 he.2 e.f1.length 0 (by omega)
  rw [List.drop_zero] at h
  exact Ev.congr (fun k => rfl) h
theorem refTakes_l0 (cs : List Int) (hc : LU cs) (l : List S53) (hl : ComU l) : ∀ (d i : Nat), i + d = l.length → Ev (fun k => q12z.l0 k cs l (l.length : Int) (i : Int)) (takesB (l.drop i) cs)
  | 0, i, hi => by
    rw [List.drop_eq_nil_of_le (by omega)]
    refine Ev.last (fun k => ?_)
    simp only [q12z.l0]
    rw [if_neg (by omega)]
    rfl
  | d + 1, i, hi => by
    have hil : i < l.length := by omega
    have hll := hl.1
    have hrd := comm_getD l i hil
    have hu := hl.2 l[i] (List.getElem_mem hil)
    have ih := refTakes_l0 cs hc l hl d (i + 1) (by omega)
    rw [List.drop_eq_getElem_cons hil]
    generalize l[i] = e at hrd hu
    have h1 := refAll_ev e hu cs hc
    simp only [takesB]
    cases ha : allB e.f1 cs with
    | true =>
      rw [ha] at h1
      refine Ev.use h1 (Ev.now _) (fun k e1 => ?_)
      simp only [q12z.l0]
      rw [if_pos (by omega), if_pos (by omega), if_pos (by omega), hrd, e1]
      rfl
    | false =>
      rw [ha] at h1
      refine Ev.use h1 ih (fun k e1 => ?_)
      simp only [q12z.l0]
      rw [if_pos (by omega), if_pos (by omega), if_pos (by omega), hrd, e1, wrN i (by omega)]
      rfl
theorem refTakes_ev (l : List S53) (hl : ComU l) (cs : List Int) (hc : LU cs) : Ev (fun k => q12z.f k l cs) (takesB l cs) := by
  have h := refTakes_l0 cs hc l hl l.length 0 (by omega)
  rw [List.drop_zero] at h
  exact Ev.congr (fun k => rfl) h
end Go.Proofs.Ytgelpccjdndfoaa.P
namespace Go.Proofs.Ytgelpccjdndfoaa.P
open Go.Sort
/-! A sorted list with what is alike left out. -/
def cmpU (l : List Int) : List Int := Go.Lib.compactUpTo l.toArray l.length
theorem getB (l : List Int) (i : Nat) (h : i < l.length) : l.toArray[i]! = l[i] := by
  rw [getElem!_pos l.toArray i (by simpa using h)]
  simp
theorem cmpU_sub (l : List Int) (x : Int) (hx : x ∈ cmpU l) : x ∈ l := by
  unfold cmpU Go.Lib.compactUpTo at hx
  rw [List.mem_map] at hx
  obtain ⟨i, hi, rfl⟩ := hx
  have hi' := List.mem_range.1 (List.mem_filter.1 hi).1
  rw [getB l i hi']
  exact List.getElem_mem hi'
theorem cmpU_sup (l : List Int) : ∀ i (h : i < l.length), l[i] ∈ cmpU l := by
  intro i
  induction i with
  | zero =>
    intro h
    unfold cmpU Go.Lib.compactUpTo
    rw [List.mem_map]
    exact ⟨0, List.mem_filter.2 ⟨List.mem_range.2 h, by simp [Go.Lib.keeps]⟩, getB l 0 h⟩
  | succ i ih =>
    intro h
    by_cases e : l[i + 1] = l[i]
    · rw [e]; exact ih (by omega)
    · unfold cmpU Go.Lib.compactUpTo
      rw [List.mem_map]
      refine ⟨i + 1, List.mem_filter.2 ⟨List.mem_range.2 h, ?_⟩, getB l (i + 1) h⟩
      simp only [Go.Lib.keeps, decide_eq_true_eq]
      refine .inr ?_
      rw [getB l (i + 1) h, Nat.add_sub_cancel, getB l i (by omega)]
      exact e
theorem cmpU_mem (l : List Int) (x : Int) : x ∈ cmpU l ↔ x ∈ l := by
  constructor
  · exact cmpU_sub l x
  · intro h
    obtain ⟨i, hi, rfl⟩ := List.getElem_of_mem h
    exact cmpU_sup l i hi
/-- A list's numbers, each once, rising. -/
def setU (l : List Int) : List Int := cmpU (sortU l)
theorem setU_mem (l : List Int) (x : Int) : x ∈ setU l ↔ x ∈ l := (cmpU_mem _ x).trans (sortU_mem l x)
end Go.Proofs.Ytgelpccjdndfoaa.P
namespace Go.Proofs.Ytgelpccjdndfoaa.P
open Go.RowKit
end Go.Proofs.Ytgelpccjdndfoaa.P
namespace Go.Proofs.Ytgelpccjdndfoaa.P
open Go.RowKit Go.Proofs.YtgelpccjdndfoaaW.PrintWords Go.Proofs.YtgelpccjdndfoaaW.PrintMore
/-! Is there a zero? -/
def hasZ (l : List Int) : Bool := l.any (fun z => decide (z = 0))
theorem index_l0 (l : List Int) (hl : l.length ≤ 9223372036854775807) : ∀ (d i : Nat), i + d = l.length → ∃ r : Int, Ev (fun k => q2z.l0 k l 0 (l.length : Int) (i : Int)) r ∧ decide (r ≥ 0) = hasZ (l.drop i)
  | 0, i, hi => by
    refine ⟨-1, Ev.step (f := fun _ => some (-1)) (fun k => ?_) (Ev.now _), ?_⟩
    · simp only [q2z.l0]
      rw [if_neg (by omega)]
    · rw [drop_ge l i (by omega)]; rfl
  | d + 1, i, hi => by
    have h : i < l.length := by omega
    rw [List.drop_eq_getElem_cons h]
    by_cases e : l[i] = 0
    · refine ⟨i, Ev.step (f := fun _ => some (i : Int)) (fun k => ?_) (Ev.now _), ?_⟩
      · simp only [q2z.l0]
        rw [if_pos (by omega), if_pos (by omega), if_pos (by omega), rdI l i h, if_pos e.symm]
      · simp [hasZ, e]
    · obtain ⟨r, h1, h2⟩ := index_l0 l hl d (i + 1) (by omega)
      refine ⟨r, Ev.step (f := fun k => q2z.l0 k l 0 (l.length : Int) ((i + 1 : Nat) : Int)) (fun k => ?_) h1, ?_⟩
      · simp only [q2z.l0]
        rw [if_pos (by omega), if_pos (by omega), if_pos (by omega), rdI l i h, if_neg (fun z => e z.symm), wrN i (by omega)]
      · rw [h2]; simp only [hasZ, List.any_cons, e, decide_false, Bool.false_or]
theorem contains_ev (l : List Int) (hl : l.length ≤ 9223372036854775807) : Ev (fun k => q3z.f k l 0) (hasZ l) := by
  obtain ⟨r, ⟨K, h1⟩, h2⟩ := index_l0 l hl l.length 0 (by omega)
  rw [List.drop_zero] at h2
  refine ⟨K, fun k hk => ?_⟩
  have := h1 k hk
  unfold q3z.f q2z.f
  exact (congrArg (fun z => Option.bind z fun t => some (decide (t ≥ 0))) this).trans (congrArg some h2)
/-! Actions: what the code and the document make. -/
abbrev AC := S26
def AU (a : AC) : Prop := I64 a.f0 ∧ U32 a.f1 ∧ LU a.f2 ∧ ComU a.f3
theorem aU_of {a : AC} (h : good26 a) : AU a := ⟨i64_of h.1, u32_of h.2.1, lu_of h.2.2.1, comU_of h.2.2.2⟩
def rightB (a : AC) : Bool :=
  if a.f0 = 1 ∨ a.f0 = 2 ∨ a.f0 = 4 then true else if a.f0 = 3 then decide (a.f1 ≤ 2) else if a.f0 = 5 then decide (a.f2.length ≤ 64) && !hasZ a.f2 else if a.f0 = 6 ∨ a.f0 = 7 then decide (a.f2.length ≤ 64) else if a.f0 = 8 then commsRight a.f3 else false
theorem act_right_j0 (a : AC) (ha : AU a) (h1 : a.f0 ≠ 1) (h2 : a.f0 ≠ 2) (g : Bool) (hg : g = (a.f0 == 4)) : Ev (fun k => q4z.j0 k (decide ((a.f2.length : Int) ≤ 64)) a.f0 g a.f0 a.f1 a.f2 a.f3) (rightB a) := by
  have hd : decide ((a.f2.length : Int) ≤ 64) = decide (a.f2.length ≤ 64) := decide_eq_decide.2 (by omega)
  rw [hd, hg]
  unfold rightB
  by_cases h4 : a.f0 = 4
  · rw [if_pos (.inr (.inr h4))]
    refine Ev.last (fun k => ?_)
    simp only [q4z.j0]
    rw [if_pos (by simp [h4])]
  · rw [if_neg (by omega)]
    by_cases h3 : a.f0 = 3
    · rw [if_pos h3]
      refine Ev.last (fun k => ?_)
      simp only [q4z.j0]
      rw [if_neg (by simp [h4]), if_pos h3]
    · rw [if_neg h3]
      by_cases h5 : a.f0 = 5
      · rw [if_pos h5]
        refine Ev.use (contains_ev a.f2 ha.2.2.1.1) (Ev.now _) (fun k e => ?_)
        simp only [q4z.j0]
        rw [if_neg (by simp [h4]), if_neg h3, if_pos h5]
        cases decide (a.f2.length ≤ 64) with
        | true => rw [if_pos rfl, e]; simp
        | false => rfl
      · rw [if_neg h5]
        have hj : ∀ g2 : Bool, (g2 = true → a.f0 = 6 ∨ a.f0 = 7) → (g2 = false → ¬ (a.f0 = 6 ∨ a.f0 = 7)) → Ev (fun k => q4z.j1 k (decide (a.f2.length ≤ 64)) a.f0 g2 a.f0 a.f1 a.f2 a.f3) (if a.f0 = 6 ∨ a.f0 = 7 then decide (a.f2.length ≤ 64) else if a.f0 = 8 then commsRight a.f3 else false) := fun g2 q1 q2 => by
          refine Ev.last (fun k => ?_)
          simp only [q4z.j1]
          cases g2 with
          | true => rw [if_pos rfl, if_pos (q1 rfl)]
          | false =>
            rw [if_neg (by decide), if_neg (q2 rfl)]
            by_cases h8 : a.f0 = 8
            · rw [if_pos h8, if_pos h8]; rfl
            · rw [if_neg h8, if_neg h8]
        by_cases h6 : a.f0 = 6
        · refine Ev.step (fun k => ?_) (hj (a.f0 == 6) (fun h => .inl (by simpa using h)) (fun h => by simp [h6] at h))
          simp only [q4z.j0]
          rw [if_neg (by simp [h4]), if_neg h3, if_neg h5, if_pos h6]
        · refine Ev.step (fun k => ?_) (hj (a.f0 == 7) (fun h => .inr (by simpa using h)) (fun h => by simp at h; omega))
          simp only [q4z.j0]
          rw [if_neg (by simp [h4]), if_neg h3, if_neg h5, if_neg h6]
theorem actRight_ev (a : AC) (ha : AU a) : Ev (fun k => q4z.f k a.f0 a.f1 a.f2 a.f3) (rightB a) := by
  have hb : ∀ g : Bool, g = true → (a.f0 = 1 ∨ a.f0 = 2) → Ev (fun k => q4z.j0 k (decide ((a.f2.length : Int) ≤ 64)) a.f0 g a.f0 a.f1 a.f2 a.f3) (rightB a) := fun g hg h => by
    unfold rightB
    rw [if_pos (by omega)]
    refine Ev.last (fun k => ?_)
    simp only [q4z.j0]
    rw [if_pos hg]
  by_cases h1 : a.f0 = 1
  · refine Ev.congr (fun k => ?_) (hb (a.f0 == 1) (by simp [h1]) (.inl h1))
    unfold q4z.f
    rw [if_pos h1]
  · by_cases h2 : a.f0 = 2
    · refine Ev.congr (fun k => ?_) (hb (a.f0 == 2) (by simp [h2]) (.inr h2))
      unfold q4z.f
      rw [if_neg h1, if_pos h2]
    · refine Ev.congr (fun k => ?_) (act_right_j0 a ha h1 h2 _ rfl)
      unfold q4z.f
      rw [if_neg h1, if_neg h2]
/-! A route with an action done. -/
def doR (a : AC) (r : R8) : R8 :=
  if rightB a = false then r
  else if a.f0 = 1 then (r.1, r.2.1, r.2.2.1, r.2.2.2.1, a.f1, r.2.2.2.2.2.1, r.2.2.2.2.2.2.1, r.2.2.2.2.2.2.2)
  else if a.f0 = 2 then (r.1, r.2.1, r.2.2.1, r.2.2.2.1, r.2.2.2.2.1, a.f1, r.2.2.2.2.2.2.1, r.2.2.2.2.2.2.2)
  else if a.f0 = 3 then (r.1, r.2.1, r.2.2.1, r.2.2.2.1, r.2.2.2.2.1, r.2.2.2.2.2.1, a.f1, r.2.2.2.2.2.2.2)
  else if a.f0 = 4 then (r.1, r.2.1, r.2.2.1, r.2.2.2.1, r.2.2.2.2.1, r.2.2.2.2.2.1, r.2.2.2.2.2.2.1, a.f1)
  else if a.f0 = 5 then (r.1, r.2.1, a.f2 ++ r.2.2.1, r.2.2.2.1, r.2.2.2.2.1, r.2.2.2.2.2.1, r.2.2.2.2.2.2.1, r.2.2.2.2.2.2.2)
  else if a.f0 = 6 then (r.1, r.2.1, r.2.2.1, setU (r.2.2.2.1 ++ a.f2), r.2.2.2.2.1, r.2.2.2.2.2.1, r.2.2.2.2.2.2.1, r.2.2.2.2.2.2.2)
  else if a.f0 = 7 then (r.1, r.2.1, r.2.2.1, setU a.f2, r.2.2.2.2.1, r.2.2.2.2.2.1, r.2.2.2.2.2.2.1, r.2.2.2.2.2.2.2)
  else (r.1, r.2.1, r.2.2.1, setU (r.2.2.2.1.filter (fun c => !takesB a.f3 [c])), r.2.2.2.2.1, r.2.2.2.2.2.1, r.2.2.2.2.2.2.1, r.2.2.2.2.2.2.2)
theorem rightB_len (a : AC) (h : rightB a = true) (h2 : a.f0 = 5 ∨ a.f0 = 6 ∨ a.f0 = 7) : a.f2.length ≤ 64 := by
  unfold rightB at h
  rw [if_neg (by omega), if_neg (by omega)] at h
  rcases h2 with h2 | h2 | h2
  · rw [if_pos h2, Bool.and_eq_true] at h
    exact of_decide_eq_true h.1
  · rw [if_neg (by omega), if_pos (.inl h2)] at h
    exact of_decide_eq_true h
  · rw [if_neg (by omega), if_pos (.inr h2)] at h
    exact of_decide_eq_true h
theorem rightB_kind (a : AC) (h : rightB a = true) : 1 ≤ a.f0 ∧ a.f0 ≤ 8 := by
  unfold rightB at h
  split at h
  · omega
  · split at h
    · omega
    · split at h
      · omega
      · split at h
        · omega
        · split at h
          · omega
          · simp at h
theorem rising_f (k : Nat) (t : List Int) (h : t.length ≤ 1000000000) : q7z.f k t = some (setU t) := by
  have h1 : Sort_u32.f k t = some (sortU t) := if_pos (by omega)
  have h2 : Compact_u32.f (sortU t) = some (setU t) := if_pos (by rw [sortU_len]; omega)
  unfold q7z.f
  rw [h1, Option.bind_some, h2, Option.bind_some]
theorem join_f (L : List (List Int)) (hl : L.length ≤ 1000) (h : sumLen L ≤ 1000000000) : q6z.f L = some L.flatten := by
  have h1 : slices_Concat_uint32_uint32.f L = some L.flatten := if_pos ⟨by omega, by omega⟩
  have h2 := sumLen_flat L
  unfold q6z.f
  rw [Option.bind_some, h1, Option.bind_some, if_pos (by simp only [List.length_nil]; omega), List.nil_append]
theorem copy_f (r : R8) (h1 : r.2.2.1.length ≤ 1000000000) (h2 : r.2.2.2.1.length ≤ 1000000000) : q5z.f r.1 r.2.1 r.2.2.1 r.2.2.2.1 r.2.2.2.2.1 r.2.2.2.2.2.1 r.2.2.2.2.2.2.1 r.2.2.2.2.2.2.2 = some r := by
  unfold q5z.f
  rw [Option.bind_some, if_pos (by simp only [List.length_nil]; omega), Option.bind_some, if_pos (by simp only [List.length_nil]; omega), List.nil_append, List.nil_append]
theorem lu_one {c : Int} (h : U32 c) : LU [c] := ⟨by simp, fun z hz => by rw [List.mem_singleton.1 hz]; exact h⟩
theorem del_f (a : AC) (ha : AU a) (cs : List Int) (hc : LU cs) : act_del.f cs a.f3 = some (cs.filter (fun c => !takesB a.f3 [c])) :=
  keepM_some _ _ cs (fun c h => takes_f a.f3 ha.2.2.2 [c] (lu_one (hc.2 c h)))
theorem do_ev (a : AC) (ha : AU a) (r : R8) (hc : LU r.2.2.2.1) (h1 : r.2.2.1.length ≤ 100000000) (h2 : r.2.2.2.1.length ≤ 100000000) :
    Ev (fun k => q8z.f k a.f0 a.f1 a.f2 a.f3 r.1 r.2.1 r.2.2.1 r.2.2.2.1 r.2.2.2.2.1 r.2.2.2.2.2.1 r.2.2.2.2.2.2.1 r.2.2.2.2.2.2.2) (doR a r) := by
  have hcp := copy_f r (by omega) (by omega)
  have hw : wrap64 a.f1 = a.f1 := ha.2.1.wr
  have hR := actRight_ev a ha
  cases hb : rightB a with
  | false =>
    refine Ev.with hR (Ev.now _) (fun k e => ?_)
    unfold q8z.f doR
    rw [hcp, Option.bind_some, e, Option.bind_some, hb, if_neg (by decide), if_pos rfl]
  | true =>
    rw [hb] at hR
    have hk := rightB_kind a hb
    unfold doR
    rw [hb, if_neg (by decide)]
    by_cases k1 : a.f0 = 1
    · refine Ev.with hR (Ev.now _) (fun k e => ?_)
      unfold q8z.f
      rw [hcp, Option.bind_some, e, Option.bind_some, if_pos rfl, if_pos k1, if_pos k1]
    rw [if_neg k1]
    by_cases k2 : a.f0 = 2
    · refine Ev.with hR (Ev.now _) (fun k e => ?_)
      unfold q8z.f
      rw [hcp, Option.bind_some, e, Option.bind_some, if_pos rfl, if_neg k1, if_pos k2, if_pos k2]
    rw [if_neg k2]
    by_cases k3 : a.f0 = 3
    · refine Ev.with hR (Ev.now _) (fun k e => ?_)
      unfold q8z.f
      rw [hcp, Option.bind_some, e, Option.bind_some, if_pos rfl, if_neg k1, if_neg k2, if_pos k3, if_pos k3, hw]
    rw [if_neg k3]
    by_cases k4 : a.f0 = 4
    · refine Ev.with hR (Ev.now _) (fun k e => ?_)
      unfold q8z.f
      rw [hcp, Option.bind_some, e, Option.bind_some, if_pos rfl, if_neg k1, if_neg k2, if_neg k3, if_pos k4, if_pos k4]
    rw [if_neg k4]
    by_cases k5 : a.f0 = 5
    · have hl := rightB_len a hb (.inl k5)
      refine Ev.with hR (Ev.now _) (fun k e => ?_)
      unfold q8z.f
      rw [hcp, Option.bind_some, e, Option.bind_some, if_pos rfl, if_neg k1, if_neg k2, if_neg k3, if_neg k4, if_pos k5, if_pos k5, join_f [a.f2, r.2.2.1] (by simp) (by simp [sumLen]; omega), Option.bind_some]
      simp
    rw [if_neg k5]
    by_cases k6 : a.f0 = 6
    · have hl := rightB_len a hb (.inr (.inl k6))
      refine Ev.with hR (Ev.now _) (fun k e => ?_)
      unfold q8z.f
      rw [hcp, Option.bind_some, e, Option.bind_some, if_pos rfl, if_neg k1, if_neg k2, if_neg k3, if_neg k4, if_neg k5, if_pos k6, if_pos k6, join_f [r.2.2.2.1, a.f2] (by simp) (by simp [sumLen]; omega), Option.bind_some, rising_f k _ (by simp; omega), Option.bind_some]
      simp
    rw [if_neg k6]
    by_cases k7 : a.f0 = 7
    · have hl := rightB_len a hb (.inr (.inr k7))
      refine Ev.with hR (Ev.now _) (fun k e => ?_)
      unfold q8z.f
      rw [hcp, Option.bind_some, e, Option.bind_some, if_pos rfl, if_neg k1, if_neg k2, if_neg k3, if_neg k4, if_neg k5, if_neg k6, if_pos k7, if_pos k7, join_f [a.f2] (by simp) (by simp [sumLen]; omega), Option.bind_some, rising_f k _ (by simp; omega), Option.bind_some]
      simp
    rw [if_neg k7]
    have k8 : a.f0 = 8 := by omega
    have hfl := List.length_filter_le (fun c => !takesB a.f3 [c]) r.2.2.2.1
    refine Ev.with hR (Ev.now _) (fun k e => ?_)
    unfold q8z.f
    rw [hcp, Option.bind_some, e, Option.bind_some, if_pos rfl, if_neg k1, if_neg k2, if_neg k3, if_neg k4, if_neg k5, if_neg k6, if_neg k7, if_pos k8, del_f a ha _ hc, Option.bind_some, rising_f k _ (by omega), Option.bind_some]
/-! What stays so, action by action. -/
def RB (n : Nat) (r : R8) : Prop := RU r ∧ r.2.2.1.length ≤ n ∧ r.2.2.2.1.length ≤ n
/-! Is it more than is looked at? -/
theorem great_l1 (l : List S53) (hl : l.length ≤ 9223372036854775807) (a0 : Int) (P : List S92) (Q : List S76) (C : List S53) (lo hi_ : Int) : ∀ (d i : Nat) (x : Int), i + d = l.length → ∃ b, Ev (fun k => q15z.l1 k x l (l.length : Int) (i : Int) a0 P Q C lo hi_) b
  | 0, i, x, hi => ⟨_, Ev.last (fun k => by
    simp only [q15z.l1]
    rw [if_neg (by omega)])⟩
  | d + 1, i, x, hi => by
    by_cases h1 : (i : Int) > 100
    · refine ⟨true, Ev.last (fun k => ?_)⟩
      simp only [q15z.l1]
      rw [if_pos (by omega), if_pos (by omega), if_pos (by omega), if_pos h1]
    · by_cases h2 : wrap64 (x + mn ((rd_T53 l (i : Int)).f1.length : Int) 10000) > 3000
      · refine ⟨true, Ev.last (fun k => ?_)⟩
        simp only [q15z.l1]
        rw [if_pos (by omega), if_pos (by omega), if_pos (by omega), if_neg h1, if_pos h2]
      · obtain ⟨b, hb⟩ := great_l1 l hl a0 P Q C lo hi_ d (i + 1) (wrap64 (x + mn ((rd_T53 l (i : Int)).f1.length : Int) 10000)) (by omega)
        refine ⟨b, Ev.step (fun k => ?_) hb⟩
        simp only [q15z.l1]
        rw [if_pos (by omega), if_pos (by omega), if_pos (by omega), if_neg h1, if_neg h2, wrN i (by omega)]
theorem refGreat_ev (a : AC) (ha : AU a) : ∃ b, Ev (fun k => q16z.f k a.f0 a.f1 a.f2 a.f3) b := by
  by_cases h : (a.f2.length : Int) > 3000
  · exact ⟨true, Ev.congr (fun k => by unfold q16z.f; rw [if_pos h]) (Ev.now _)⟩
  · obtain ⟨b, hb⟩ := great_l1 a.f3 ha.2.2.2.1 0 [] [] a.f3 0 0 a.f3.length 0 0 (by omega)
    have h0 : Ev (fun k => q15z.f k 0 [] [] a.f3 0 0) b := by
      refine Ev.step (fun k => ?_) hb
      unfold q15z.f
      simp only [q15z.l0]
      rw [if_neg (by simp)]
      rfl
    refine ⟨b, Ev.with h0 (Ev.now _) (fun k e => ?_)⟩
    unfold q16z.f
    rw [if_neg h, e, Option.bind_some]
theorem greatR_f (r : R8) : q1z.f r.1 r.2.1 r.2.2.1 r.2.2.2.1 r.2.2.2.2.1 r.2.2.2.2.2.1 r.2.2.2.2.2.2.1 r.2.2.2.2.2.2.2 = some (decide (1000 < r.2.2.1.length ∨ 1000 < r.2.2.2.1.length)) := by
  unfold q1z.f
  by_cases h : (r.2.2.1.length : Int) > 1000
  · rw [if_pos h, decide_eq_true (.inl (by omega))]
  · rw [if_neg h]
    exact congrArg some (decide_eq_decide.2 (by omega))
theorem alive_ev : Ev (fun k => q13z.f k) true := by
  refine ⟨60, fun k hk => ?_⟩
  obtain ⟨m, rfl⟩ : ∃ m, k = m + 60 := ⟨k - 60, by omega⟩
  kernel_rfl
/-! What is set or added is there, what was taken away is not. -/
theorem numsS_l0 (C : List Int) (hC : C.length ≤ 1000000000) : ∀ (e i : Nat), i + e = C.length → Ev (fun k => q9z.l0 k C C (C.length : Int) (i : Int)) true
  | 0, i, hi => by
    refine Ev.last (fun k => ?_)
    simp only [q9z.l0]
    rw [if_neg (by omega)]
  | e + 1, i, hi => by
    refine Ev.step (fun k => ?_) (numsS_l0 C hC e (i + 1) (by omega))
    simp only [q9z.l0]
    rw [if_pos (by omega), if_pos (by omega), if_pos (by omega), if_pos (by omega), if_pos trivial, wrN i (by omega)]
theorem numsS_ev (C : List Int) (hC : C.length ≤ 1000000000) : Ev (fun k => q9z.f k C C) true := by
  refine Ev.congr (fun k => ?_) (numsS_l0 C hC C.length 0 (by omega))
  unfold q9z.f
  rw [if_pos rfl]
  rfl
def hasC (c : Int) (l : List Int) : Bool := l.any (fun z => z == c)
theorem hasC_iff (c : Int) (l : List Int) : hasC c l = true ↔ c ∈ l := by
  unfold hasC
  rw [List.any_eq_true]
  constructor
  · rintro ⟨z, hz, e⟩
    rw [beq_iff_eq] at e
    exact e ▸ hz
  · exact fun h => ⟨c, h, beq_iff_eq.2 rfl⟩
theorem hasC_set (c : Int) (l : List Int) : hasC c (setU l) = hasC c l := by rw [Bool.eq_iff_iff, hasC_iff, hasC_iff, setU_mem]
theorem hasC_app (c : Int) (l m : List Int) : hasC c (l ++ m) = (hasC c l || hasC c m) := by unfold hasC; rw [List.any_append]
theorem hasC_filter (c : Int) (l : List Int) (p : Int → Bool) : hasC c (l.filter p) = (hasC c l && p c) := by
  rw [Bool.eq_iff_iff, hasC_iff, List.mem_filter, Bool.and_eq_true, hasC_iff]
theorem has_f_eq (c : Int) (l : List Int) : acts_has.f l c = some (hasC c l) := rfl
theorem sets_j0t (c : Int) (a : AC) (r : R8) : Ev (fun k => q17z.j0 k c true a.f0 a.f1 a.f2 a.f3 r.1 r.2.1 r.2.2.1 r.2.2.2.1 r.2.2.2.2.1 r.2.2.2.2.2.1 r.2.2.2.2.2.2.1 r.2.2.2.2.2.2.2) true := Ev.last (fun k => by
  simp only [q17z.j0]
  rw [if_pos trivial])
theorem sets_j0 (c : Int) (hc : U32 c) (a : AC) (r : R8) (ha : AU a) (hb : rightB a = true) (hr : RB 10000 r) :
    Ev (fun k => q17z.j0 k c false a.f0 a.f1 a.f2 a.f3 r.1 r.2.1 r.2.2.1 r.2.2.2.1 r.2.2.2.2.1 r.2.2.2.2.2.1 r.2.2.2.2.2.2.1 r.2.2.2.2.2.2.2) true := by
  have e1 := do_ev a ha r hr.1.2.2.2.1 (by have := hr.2.1; omega) (by have := hr.2.2; omega)
  have e2 := refTakes_ev a.f3 ha.2.2.2 [c] (lu_one hc)
  have e4 := numsS_ev r.2.2.1 (by have := hr.2.1; omega)
  have hw : wrap64 a.f1 = a.f1 := ha.2.1.wr
  have ka := rightB_kind a hb
  have hlen := rightB_len a hb
  have ca : a.f0 = 1 ∨ a.f0 = 2 ∨ a.f0 = 3 ∨ a.f0 = 4 ∨ a.f0 = 5 ∨ a.f0 = 6 ∨ a.f0 = 7 ∨ a.f0 = 8 := by omega
  obtain ⟨K1, h1⟩ := Ev.and e1 e2
  have fin : ∀ K2 : Nat, (∀ k, K1 ≤ k → K2 ≤ k → q17z.j0 (k + 1) c false a.f0 a.f1 a.f2 a.f3 r.1 r.2.1 r.2.2.1 r.2.2.2.1 r.2.2.2.2.1 r.2.2.2.2.2.1 r.2.2.2.2.2.2.1 r.2.2.2.2.2.2.2 = some true) → Ev (fun k => q17z.j0 k c false a.f0 a.f1 a.f2 a.f3 r.1 r.2.1 r.2.2.1 r.2.2.2.1 r.2.2.2.2.1 r.2.2.2.2.2.1 r.2.2.2.2.2.2.1 r.2.2.2.2.2.2.2) true := fun K2 h => ⟨K1 + K2 + 1, fun n hn => by
    obtain ⟨k, rfl⟩ : ∃ k, n = k + 1 := ⟨n - 1, by omega⟩
    exact h k (by omega) (by omega)⟩
  rcases ca with ca | ca | ca | ca | ca | ca | ca | ca
  · refine fin 0 (fun k hk _ => ?_)
    obtain ⟨q1, q2⟩ := h1 k hk
    have hd : (doR a r).2.2.2.2.1 = a.f1 := by simp [doR, hb, ca]
    simp only [q17z.j0]
    rw [if_neg (by decide), q1, Option.bind_some, if_pos ca, hd, beq_self_eq_true]
  · refine fin 0 (fun k hk _ => ?_)
    obtain ⟨q1, q2⟩ := h1 k hk
    have hd : (doR a r).2.2.2.2.2.1 = a.f1 := by simp [doR, hb, ca]
    simp only [q17z.j0]
    rw [if_neg (by decide), q1, Option.bind_some, if_neg (by omega), if_pos ca, hd, beq_self_eq_true]
  · refine fin 0 (fun k hk _ => ?_)
    obtain ⟨q1, q2⟩ := h1 k hk
    have hd : (doR a r).2.2.2.2.2.2.1 = a.f1 := by simp [doR, hb, ca]
    simp only [q17z.j0]
    rw [if_neg (by decide), q1, Option.bind_some, if_neg (by omega), if_neg (by omega), if_pos ca, hd, hw, beq_self_eq_true]
  · refine fin 0 (fun k hk _ => ?_)
    obtain ⟨q1, q2⟩ := h1 k hk
    have hd : (doR a r).2.2.2.2.2.2.2 = a.f1 := by simp [doR, hb, ca]
    simp only [q17z.j0]
    rw [if_neg (by decide), q1, Option.bind_some, if_neg (by omega), if_neg (by omega), if_neg (by omega), if_pos ca, hd, beq_self_eq_true]
  · have hl := hlen (.inl ca)
    have e3 := numsS_ev a.f2 (by omega)
    obtain ⟨K2, h2⟩ := Ev.and e3 e4
    refine fin K2 (fun k hk hk2 => ?_)
    obtain ⟨q1, q2⟩ := h1 k hk
    obtain ⟨q3, q4⟩ := h2 k hk2
    have hd : (doR a r).2.2.1 = a.f2 ++ r.2.2.1 := by simp [doR, hb, ca]
    simp only [q17z.j0]
    rw [if_neg (by decide), q1, Option.bind_some, if_neg (by omega), if_neg (by omega), if_neg (by omega), if_neg (by omega), if_pos ca, hd, if_pos (by omega), if_pos (by rw [List.length_append]; omega), Int.toNat_natCast, List.take_left, List.drop_left, q3, Option.bind_some, if_pos rfl, q4, Option.bind_some]
  · refine fin 0 (fun k hk _ => ?_)
    obtain ⟨q1, q2⟩ := h1 k hk
    have hd : (doR a r).2.2.2.1 = setU (r.2.2.2.1 ++ a.f2) := by simp [doR, hb, ca]
    simp only [q17z.j0]
    rw [if_neg (by decide), q1, Option.bind_some, if_neg (by omega), if_neg (by omega), if_neg (by omega), if_neg (by omega), if_neg (by omega), if_pos ca, hd, has_f_eq, Option.bind_some, has_f_eq, Option.bind_some, has_f_eq, Option.bind_some, hasC_set, hasC_app]
    cases hasC c a.f2 <;> cases hasC c r.2.2.2.1 <;> rfl
  · refine fin 0 (fun k hk _ => ?_)
    obtain ⟨q1, q2⟩ := h1 k hk
    have hd : (doR a r).2.2.2.1 = setU a.f2 := by simp [doR, hb, ca]
    simp only [q17z.j0]
    rw [if_neg (by decide), q1, Option.bind_some, if_neg (by omega), if_neg (by omega), if_neg (by omega), if_neg (by omega), if_neg (by omega), if_neg (by omega), if_pos ca, hd, has_f_eq, Option.bind_some, has_f_eq, Option.bind_some, hasC_set, beq_self_eq_true]
  · refine fin 0 (fun k hk _ => ?_)
    obtain ⟨q1, q2⟩ := h1 k hk
    have hd : (doR a r).2.2.2.1 = setU (r.2.2.2.1.filter (fun c => !takesB a.f3 [c])) := by simp [doR, hb, ca]
    simp only [q17z.j0]
    rw [if_neg (by decide), q1, Option.bind_some, if_neg (by omega), if_neg (by omega), if_neg (by omega), if_neg (by omega), if_neg (by omega), if_neg (by omega), if_neg (by omega), hd, has_f_eq, Option.bind_some, has_f_eq, Option.bind_some, hasC_set, hasC_filter, q2, Option.bind_some]
    cases hasC c r.2.2.2.1 <;> cases takesB a.f3 [c] <;> rfl
theorem pure_ActSets (a0_0 : Int) (a0_1 : Int) (l0_2 : List Int) (l0_3 : List (S53)) (a1_0_0 : Int) (a1_0_1 : Int) (l1_1 : List Int) (l1_2 : List Int) (a1_3 : Int) (a1_4 : Int) (a1_5 : Int) (a1_6 : Int) (a2 : Int) (h0 : (Lit.int .i64 a0_0).wf = true) (h1 : (Lit.int .u32 a0_1).wf = true) (h2 : (l0_2.length ≤ 9223372036854775807 ∧ ∀ z_ ∈ l0_2, (Lit.int .u32 z_).wf = true)) (h3 : (l0_3.length ≤ 9223372036854775807 ∧ ∀ z_ ∈ l0_3, good53 z_)) (h4 : (Lit.int .u32 a1_0_0).wf = true) (h5 : (Lit.int .i64 a1_0_1).wf = true) (h6 : (l1_1.length ≤ 9223372036854775807 ∧ ∀ z_ ∈ l1_1, (Lit.int .u32 z_).wf = true)) (h7 : (l1_2.length ≤ 9223372036854775807 ∧ ∀ z_ ∈ l1_2, (Lit.int .u32 z_).wf = true)) (h8 : (Lit.int .u32 a1_3).wf = true) (h9 : (Lit.int .u32 a1_4).wf = true) (h10 : (Lit.int .i64 a1_5).wf = true) (h11 : (Lit.int .u32 a1_6).wf = true) (h12 : (Lit.int .u32 a2).wf = true) : ∃ k, q17z.f k a0_0 a0_1 l0_2 l0_3 a1_0_0 a1_0_1 l1_1 l1_2 a1_3 a1_4 a1_5 a1_6 a2 = some true := by
  obtain ⟨r, hr⟩ : ∃ r : R8, r = (a1_0_0, a1_0_1, l1_1, l1_2, a1_3, a1_4, a1_5, a1_6) := ⟨_, rfl⟩
  have hRU : RU r := by rw [hr]; exact ⟨u32_of h4, i64_of h5, lu_of h6, lu_of h7, u32_of h8, u32_of h9, i64_of h10, u32_of h11⟩
  obtain ⟨a, ha⟩ : ∃ a : AC, a = ⟨a0_0, a0_1, l0_2, l0_3⟩ := ⟨_, rfl⟩
  have hau : AU a := by rw [ha]; exact aU_of ⟨h0, h1, h2, h3⟩
  have hc : U32 a2 := u32_of h12
  have main : Ev (fun k => q17z.f k a.f0 a.f1 a.f2 a.f3 r.1 r.2.1 r.2.2.1 r.2.2.2.1 r.2.2.2.2.1 r.2.2.2.2.2.1 r.2.2.2.2.2.2.1 r.2.2.2.2.2.2.2 a2) true := by
    obtain ⟨g1, hg1⟩ := refGreat_ev a hau
    cases g1 with
    | true =>
      refine Ev.with2 alive_ev hg1 (sets_j0t a2 a r) (fun k q q1 => ?_)
      unfold q17z.f
      rw [q, Option.bind_some, if_pos rfl, q1, Option.bind_some, if_pos rfl]
    | false =>
      by_cases hG : 1000 < r.2.2.1.length ∨ 1000 < r.2.2.2.1.length
      · refine Ev.with2 alive_ev hg1 (sets_j0t a2 a r) (fun k q q1 => ?_)
        unfold q17z.f
        rw [q, Option.bind_some, if_pos rfl, q1, Option.bind_some, if_neg (by decide), greatR_f, Option.bind_some, decide_eq_true hG, if_pos rfl]
      · have hR := actRight_ev a hau
        cases hb : rightB a with
        | false =>
          rw [hb] at hR
          have hT : Ev (fun k => if true = true then (q4z.f k a.f0 a.f1 a.f2 a.f3).bind fun t6 => q17z.j0 k a2 (!t6) a.f0 a.f1 a.f2 a.f3 r.1 r.2.1 r.2.2.1 r.2.2.2.1 r.2.2.2.2.1 r.2.2.2.2.2.1 r.2.2.2.2.2.2.1 r.2.2.2.2.2.2.2 else none) true := Ev.with hR (sets_j0t a2 a r) (fun k q2 => by rw [if_pos rfl, q2, Option.bind_some]; rfl)
          refine Ev.with2 alive_ev hg1 hT (fun k q q1 => ?_)
          unfold q17z.f
          rw [q, Option.bind_some, if_pos rfl, q1, Option.bind_some, if_neg (by decide), greatR_f, Option.bind_some, decide_eq_false hG, if_neg (by decide), if_pos rfl]
        | true =>
          rw [hb] at hR
          have hT : Ev (fun k => if true = true then (q4z.f k a.f0 a.f1 a.f2 a.f3).bind fun t6 => q17z.j0 k a2 (!t6) a.f0 a.f1 a.f2 a.f3 r.1 r.2.1 r.2.2.1 r.2.2.2.1 r.2.2.2.2.1 r.2.2.2.2.2.1 r.2.2.2.2.2.2.1 r.2.2.2.2.2.2.2 else none) true := Ev.with hR (sets_j0 a2 hc a r hau hb ⟨hRU, by omega, by omega⟩) (fun k q2 => by rw [if_pos rfl, q2, Option.bind_some]; rfl)
          refine Ev.with2 alive_ev hg1 hT (fun k q q1 => ?_)
          unfold q17z.f
          rw [q, Option.bind_some, if_pos rfl, q1, Option.bind_some, if_neg (by decide), greatR_f, Option.bind_some, decide_eq_false hG, if_neg (by decide), if_pos rfl]
  rw [ha, hr] at main
  exact main.rounds
end Go.Proofs.Ytgelpccjdndfoaa.P
namespace Go.Proofs.Ytgelpccjdndfoaa.actSets
open Go.ChangeShapes Go.WideShapes Go.ChangeAt Go.RowKit
open Go.ChangeMaps (open_string shut_string)
open Go.Proofs.YtgelpccjdndfoaaW.PrintWords Go.Proofs.YtgelpccjdndfoaaW.PrintLast Go.Proofs.YtgelpccjdndfoaaW.PrintMore Go.Proofs.Ytgelpccjdndfoaa.P
theorem own : ownKnob Try.prog.godebug = none := by kernel_rfl
theorem laidOut : laidOutB Try.prog = true := by kernel_rfl
set_option maxRecDepth 100000 in
theorem lifted (os : Os) (started : os.Started) (H : Type) (enc : TypeId × Value → H) :
    ReturnsInHanded {} Try.checked os 4 .any (Rows.actSetsSpec.pre6 enc Try.prog Try.f4 Rows.actSetsRow.domain false) (Rows.actSetsSpec.post enc Try.prog Try.f4 false true false false) := by
  refine returnsInHanded_of_change_sized (C := Try.checked) own started (by kernel_rfl) Try.func4
    (ChangeSpec.witness6 (enc := enc) (C := Try.checked) false ⟨#[], #[.agg #[.int .i64 0, .int .u32 0, .slice none 0 0, .slice none 0 0], .agg #[.int .u32 0, .int .i64 0, .slice none 0 0, .slice none 0 0, .int .u32 0, .int .u32 0, .int .i64 0, .int .u32 0], .int .u32 0], []⟩ 8 (by kernel_rfl) (by kernel_rfl) (by kernel_rfl) (by kernel_rfl)) ?_
  intro W base args ds gs before hval0 hW hcnd hsz0 _
  have hval : ∀ (j : Nat) t v, Try.f4.params[j]? = some t → args[j]? = some v → Value.okWide Try.prog W .any base t v := hval0
  have hW' := hW
  obtain ⟨p, q, hA0, hV, rfl, hfz, hnd⟩ := hW
  have hA : DataW.TrodAll enc Try.prog W 0 (fun _ => true) true Try.f4.params.toList args.toList ds p := hA0
  rw [Try.params4] at hA hval
  obtain ⟨v0, vs0, d0, ds0, p0, q0, hargs, rfl, rfl, h0, r0⟩ := trodAll_cons hA
  obtain ⟨v1, vs1, d1, ds1, p1, q1, rfl, rfl, rfl, h1, r1⟩ := trodAll_cons r0
  obtain ⟨v2, vs2, d2, ds2, p2, q2, rfl, rfl, rfl, h2, r2⟩ := trodAll_cons r1
  obtain ⟨rfl, rfl, rfl⟩ := trodAll_nil r2
  obtain rfl : args = #[v0, v1, v2] := by cases args; simp_all
  obtain ⟨rfl, rfl⟩ := trodVars_none hV
  obtain ⟨cs0, rfl, hz0⟩ := okWide_struct Try.underlying26 (hval 0 26 v0 rfl rfl)
  have k0 := h0
  have lt0 : ∀ x ∈ p0, x.block < W.heap.size := by obtain ⟨m, hm⟩ := k0; exact DataW.trod_lt m _ _ _ hm
  obtain ⟨⟨l0_0, l0_1, l0_2, l0_3⟩, hK0, hg0⟩ : ∃ x_ : S26, k26.K W x_ cs0.toList ∧ good26 x_ := by obtain ⟨fuel, hf⟩ := h0; exact opens_T26 _ _ _ (by simpa [Value.cells] using hf)
  obtain ⟨A0_2_, c0_2_, A0_3_, c0_3_, hcs0, hle0_2, hC0_2, hle0_3, hC0_3⟩ := k26_open hK0
  obtain rfl : cs0 = #[.int .i64 l0_0, .int .u32 l0_1, .slice A0_2_ l0_2.length c0_2_, .slice A0_3_ l0_3.length c0_3_] := Array.ext' hcs0
  obtain ⟨g0_0, g0_1, g0_2, g0_3⟩ := hg0
  obtain ⟨cs1, rfl, hz1⟩ := okWide_struct Try.underlying30 (hval 1 30 v1 rfl rfl)
  have k1 := h1
  have lt1 : ∀ x ∈ p1, x.block < W.heap.size := by obtain ⟨m, hm⟩ := k1; exact DataW.trod_lt m _ _ _ hm
  obtain ⟨⟨⟨l1_0_0, l1_0_1⟩, l1_1, l1_2, l1_3, l1_4, l1_5, l1_6⟩, hK1, hg1⟩ : ∃ x_ : S30, k30.K W x_ cs1.toList ∧ good30 x_ := by obtain ⟨fuel, hf⟩ := h1; exact opens_T30 _ _ _ (by simpa [Value.cells] using hf)
  obtain ⟨A1_1_, c1_1_, A1_2_, c1_2_, hcs1, hle1_1, hC1_1, hle1_2, hC1_2⟩ := k30_open hK1
  obtain rfl : cs1 = #[.int .u32 l1_0_0, .int .i64 l1_0_1, .slice A1_1_ l1_1.length c1_1_, .slice A1_2_ l1_2.length c1_2_, .int .u32 l1_3, .int .u32 l1_4, .int .i64 l1_5, .int .u32 l1_6] := Array.ext' hcs1
  obtain ⟨⟨g1_0_0, g1_0_1⟩, g1_1, g1_2, g1_3, g1_4, g1_5, g1_6⟩ := hg1
  obtain ⟨a2, rfl, rfl, rfl, w2⟩ := open_int Try.underlying22 (hval 2 22 v2 rfl rfl) h2
  clear hA0 hval0 hsz0
  obtain ⟨k_, hk_⟩ := pure_ActSets l0_0 l0_1 l0_2 l0_3 l1_0_0 l1_0_1 l1_1 l1_2 l1_3 l1_4 l1_5 l1_6 a2 g0_0 g0_1 g0_2 g0_3 g1_0_0 g1_0_1 g1_1 g1_2 g1_3 g1_4 g1_5 g1_6 w2
  refine (q17z.calls k_ l0_0 l0_1 A0_2_ c0_2_ l0_2 A0_3_ c0_3_ l0_3 l1_0_0 l1_0_1 A1_1_ c1_1_ l1_1 A1_2_ c1_2_ l1_2 l1_3 l1_4 l1_5 l1_6 a2 true W hC0_2 hle0_2 hC0_3 hle0_3 hC1_1 hle1_1 hC1_2 hle1_2 hk_).mono fun e W' ⟨he, bel⟩ => ?_
  subst he
  exact ⟨_, rfl, _, _, _, [], _, [], hW', trodAll_mk1 (shut_bool Try.underlying4 _), (trodAll_cons_mk (Below.trod laidOut (by kernel_rfl) (of_decide_eq_true (by kernel_rfl)) k0 bel lt0) (trodAll_cons_mk (Below.trod laidOut (by kernel_rfl) (of_decide_eq_true (by kernel_rfl)) k1 bel lt1) (trodAll_cons_mk (shut_int Try.underlying22 w2) trodAll_mk0))), rfl, bel.frame _, fun h => by cases h⟩
theorem over : Rows.actSetsRow.holds Try.pinned (OpenSpec.ofChange Rows.actSetsSpec) :=
  OpenClaim.holds_of_wide 4 Try.f4 rfl rfl rfl rfl rfl rfl rfl ⟨rfl, rfl, rfl, rfl, rfl⟩ rfl rfl rfl rfl rfl (by kernel_rfl) Try.func4 (by kernel_rfl)
    (of_decide_eq_true (by kernel_rfl)) (by unfold Func.isWrapper; first | (rw [if_pos (by decide +kernel)]; kernel_rfl) | (rw [if_neg (by decide +kernel)]; exact ⟨rfl, rfl⟩))
    (fun os started H enc _ => lifted os started H enc)
theorem proved : Rows.ActSetsSaid := over
end Go.Proofs.Ytgelpccjdndfoaa.actSets
namespace Go.Proofs.Ytgelpccjdndfoaa
/-- The row, under a short name, for the claim. -/
theorem actSets_holds : Rows.ActSetsSaid := actSets.proved
#print axioms actSets_holds
end Go.Proofs.Ytgelpccjdndfoaa
