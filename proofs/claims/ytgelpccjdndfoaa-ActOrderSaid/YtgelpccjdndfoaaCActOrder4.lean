/-
  Proved: for every input the law ActOrder answers true, and each argument reads behind the call as it read before.
  Conditions: none beside the row's own.
-/
import Derived.Test.YtgelpccjdndfoaaRows
import Derived.WalkKit
import Derived.ProofKit
import Derived.OpenShut
import Derived.ShutString
import Derived.ChangeOld
import Derived.Below
import Derived.SizedLaws
import Derived.Test.YtgelpccjdndfoaaCActOrder0
import Derived.Test.YtgelpccjdndfoaaCActOrder1
import Derived.Test.YtgelpccjdndfoaaCActOrder2
import Derived.Test.YtgelpccjdndfoaaCActOrder3
namespace Go.Proofs.Ytgelpccjdndfoaa.P
open Go.RowKit Go.Proofs.YtgelpccjdndfoaaW.PrintWords Go.Proofs.YtgelpccjdndfoaaW.PrintMore
set_option linter.unusedVariables false
set_option linter.unusedSimpArgs false
/-! Actions on unlike fields in either order. -/
theorem doR_no (a : AC) (r : R8) (h : rightB a = false) : doR a r = r := by unfold doR; rw [if_pos h]
theorem doR_comm (a b : AC) (r : R8) (h : a.f0 ≠ b.f0) (h2 : ¬ (6 ≤ a.f0 ∧ 6 ≤ b.f0)) : doR b (doR a r) = doR a (doR b r) := by
  cases ha : rightB a with
  | false => rw [doR_no a _ ha, doR_no a _ ha]
  | true =>
    cases hb : rightB b with
    | false => rw [doR_no b _ hb, doR_no b _ hb]
    | true =>
      have ka := rightB_kind a ha
      have kb := rightB_kind b hb
      have ca : a.f0 = 1 ∨ a.f0 = 2 ∨ a.f0 = 3 ∨ a.f0 = 4 ∨ a.f0 = 5 ∨ a.f0 = 6 ∨ a.f0 = 7 ∨ a.f0 = 8 := by omega
      have cb : b.f0 = 1 ∨ b.f0 = 2 ∨ b.f0 = 3 ∨ b.f0 = 4 ∨ b.f0 = 5 ∨ b.f0 = 6 ∨ b.f0 = 7 ∨ b.f0 = 8 := by omega
      obtain ⟨r0, r1, r2, r3, r4, r5, r6, r7⟩ := r
      rcases ca with ca | ca | ca | ca | ca | ca | ca | ca <;> rcases cb with cb | cb | cb | cb | cb | cb | cb | cb <;> first | (exfalso; omega) | (simp [doR, ha, hb, ca, cb]; done)
theorem allR_two (a b : AC) (r : R8) (h : a.f0 ≠ b.f0) (h2 : ¬ (6 ≤ a.f0 ∧ 6 ≤ b.f0)) : allR [a, b] r = allR [b, a] r := doR_comm a b r h h2
theorem ord_j1 (a b : AC) (r : R8) (ha : AU a) (hb : AU b) (hr : RB 10000 r) (h : a.f0 ≠ b.f0) (h2 : ¬ (6 ≤ a.f0 ∧ 6 ≤ b.f0)) :
    Ev (fun k => q18z.j1 k false a.f0 a.f1 a.f2 a.f3 b.f0 b.f1 b.f2 b.f3 r.1 r.2.1 r.2.2.1 r.2.2.2.1 r.2.2.2.2.1 r.2.2.2.2.2.1 r.2.2.2.2.2.2.1 r.2.2.2.2.2.2.2) true := by
  have e1 := all_ev [a, b] (by simp) (by intro x hx; rcases List.mem_cons.1 hx with hx | hx; exact hx ▸ ha; exact (List.mem_singleton.1 hx) ▸ hb) r hr
  have e2 := all_ev [b, a] (by simp) (by intro x hx; rcases List.mem_cons.1 hx with hx | hx; exact hx ▸ hb; exact (List.mem_singleton.1 hx) ▸ ha) r hr
  have hab := allR_two a b r h h2
  have hu : RU (allR [a, b] r) := (doR_RB b hb (doR a r) 10064 (by decide) (doR_RB a ha r 10000 (by decide) hr)).1
  rw [← hab] at e2
  have e3 := refCmp_ev _ _ hu hu
  rw [cmpR_ord.self] at e3
  refine Ev.use3 e1 e2 e3 (Ev.now _) (fun k q1 q2 q3 => ?_)
  simp only [q18z.j1]
  rw [if_neg (by decide)]
  refine (congrArg (fun z => Option.bind z _) q1).trans ?_
  rw [Option.bind_some]
  refine (congrArg (fun z => Option.bind z _) q2).trans ?_
  rw [Option.bind_some, q3, Option.bind_some]
  rfl
theorem ord_j1t (a b : AC) (r : R8) : Ev (fun k => q18z.j1 k true a.f0 a.f1 a.f2 a.f3 b.f0 b.f1 b.f2 b.f3 r.1 r.2.1 r.2.2.1 r.2.2.2.1 r.2.2.2.2.1 r.2.2.2.2.2.1 r.2.2.2.2.2.2.1 r.2.2.2.2.2.2.2) true := Ev.last (fun k => by
  simp only [q18z.j1]
  rw [if_pos trivial])
theorem ord_j0t (a b : AC) (r : R8) : Ev (fun k => q18z.j0 k true a.f0 a.f1 a.f2 a.f3 b.f0 b.f1 b.f2 b.f3 r.1 r.2.1 r.2.2.1 r.2.2.2.1 r.2.2.2.2.1 r.2.2.2.2.2.1 r.2.2.2.2.2.2.1 r.2.2.2.2.2.2.2) true := Ev.last (fun k => by
  simp only [q18z.j0]
  rw [if_pos trivial])
theorem ord_j0 (a b : AC) (r : R8) (ha : AU a) (hb : AU b) (hr : RB 10000 r) :
    Ev (fun k => q18z.j0 k false a.f0 a.f1 a.f2 a.f3 b.f0 b.f1 b.f2 b.f3 r.1 r.2.1 r.2.2.1 r.2.2.2.1 r.2.2.2.2.1 r.2.2.2.2.2.1 r.2.2.2.2.2.2.1 r.2.2.2.2.2.2.2) true := by
  by_cases h : a.f0 = b.f0
  · refine Ev.step (fun k => ?_) (ord_j1t a b r)
    simp only [q18z.j0]
    rw [if_neg (by decide), if_pos h]
  · by_cases h6 : a.f0 ≥ 6
    · by_cases h7 : b.f0 ≥ 6
      · refine Ev.step (fun k => ?_) (ord_j1t a b r)
        simp only [q18z.j0]
        rw [if_neg (by decide), if_neg h, if_pos h6, decide_eq_true h7]
      · refine Ev.step (fun k => ?_) (ord_j1 a b r ha hb hr h (by omega))
        simp only [q18z.j0]
        rw [if_neg (by decide), if_neg h, if_pos h6, decide_eq_false h7]
    · refine Ev.step (fun k => ?_) (ord_j1 a b r ha hb hr h (by omega))
      simp only [q18z.j0]
      rw [if_neg (by decide), if_neg h, if_neg h6]
theorem pure_ActOrder (a0_0 : Int) (a0_1 : Int) (l0_2 : List Int) (l0_3 : List (S53)) (a1_0 : Int) (a1_1 : Int) (l1_2 : List Int) (l1_3 : List (S53)) (a2_0_0 : Int) (a2_0_1 : Int) (l2_1 : List Int) (l2_2 : List Int) (a2_3 : Int) (a2_4 : Int) (a2_5 : Int) (a2_6 : Int) (h0 : (Lit.int .i64 a0_0).wf = true) (h1 : (Lit.int .u32 a0_1).wf = true) (h2 : (l0_2.length ≤ 9223372036854775807 ∧ ∀ z_ ∈ l0_2, (Lit.int .u32 z_).wf = true)) (h3 : (l0_3.length ≤ 9223372036854775807 ∧ ∀ z_ ∈ l0_3, good53 z_)) (h4 : (Lit.int .i64 a1_0).wf = true) (h5 : (Lit.int .u32 a1_1).wf = true) (h6 : (l1_2.length ≤ 9223372036854775807 ∧ ∀ z_ ∈ l1_2, (Lit.int .u32 z_).wf = true)) (h7 : (l1_3.length ≤ 9223372036854775807 ∧ ∀ z_ ∈ l1_3, good53 z_)) (h8 : (Lit.int .u32 a2_0_0).wf = true) (h9 : (Lit.int .i64 a2_0_1).wf = true) (h10 : (l2_1.length ≤ 9223372036854775807 ∧ ∀ z_ ∈ l2_1, (Lit.int .u32 z_).wf = true)) (h11 : (l2_2.length ≤ 9223372036854775807 ∧ ∀ z_ ∈ l2_2, (Lit.int .u32 z_).wf = true)) (h12 : (Lit.int .u32 a2_3).wf = true) (h13 : (Lit.int .u32 a2_4).wf = true) (h14 : (Lit.int .i64 a2_5).wf = true) (h15 : (Lit.int .u32 a2_6).wf = true) : ∃ k, q18z.f k a0_0 a0_1 l0_2 l0_3 a1_0 a1_1 l1_2 l1_3 a2_0_0 a2_0_1 l2_1 l2_2 a2_3 a2_4 a2_5 a2_6 = some true := by
  obtain ⟨r, hr⟩ : ∃ r : R8, r = (a2_0_0, a2_0_1, l2_1, l2_2, a2_3, a2_4, a2_5, a2_6) := ⟨_, rfl⟩
  have hRU : RU r := by rw [hr]; exact ⟨u32_of h8, i64_of h9, lu_of h10, lu_of h11, u32_of h12, u32_of h13, i64_of h14, u32_of h15⟩
  obtain ⟨a, ha⟩ : ∃ a : AC, a = ⟨a0_0, a0_1, l0_2, l0_3⟩ := ⟨_, rfl⟩
  obtain ⟨b, hb⟩ : ∃ a : AC, a = ⟨a1_0, a1_1, l1_2, l1_3⟩ := ⟨_, rfl⟩
  have hau : AU a := by rw [ha]; exact aU_of ⟨h0, h1, h2, h3⟩
  have hbu : AU b := by rw [hb]; exact aU_of ⟨h4, h5, h6, h7⟩
  have main : Ev (fun k => q18z.f k a.f0 a.f1 a.f2 a.f3 b.f0 b.f1 b.f2 b.f3 r.1 r.2.1 r.2.2.1 r.2.2.2.1 r.2.2.2.2.1 r.2.2.2.2.2.1 r.2.2.2.2.2.2.1 r.2.2.2.2.2.2.2) true := by
    obtain ⟨g1, hg1⟩ := refGreat_ev a hau
    obtain ⟨g2, hg2⟩ := refGreat_ev b hbu
    cases g1 with
    | true =>
      refine Ev.with2 alive_ev hg1 (ord_j0t a b r) (fun k q q1 => ?_)
      unfold q18z.f
      rw [q, Option.bind_some, if_pos rfl, q1, Option.bind_some, if_pos rfl]
    | false =>
      have hrest : Ev (fun k => if true = true then ((q17z.f k b.f0 b.f1 b.f2 b.f3).bind fun t6 => (if t6 = true then (q18z.j0 k true a.f0 a.f1 a.f2 a.f3 b.f0 b.f1 b.f2 b.f3 r.1 r.2.1 r.2.2.1 r.2.2.2.1 r.2.2.2.2.1 r.2.2.2.2.2.1 r.2.2.2.2.2.2.1 r.2.2.2.2.2.2.2) else ((q1z.f r.1 r.2.1 r.2.2.1 r.2.2.2.1 r.2.2.2.2.1 r.2.2.2.2.2.1 r.2.2.2.2.2.2.1 r.2.2.2.2.2.2.2).bind fun t7 => (q18z.j0 k t7 a.f0 a.f1 a.f2 a.f3 b.f0 b.f1 b.f2 b.f3 r.1 r.2.1 r.2.2.1 r.2.2.2.1 r.2.2.2.2.1 r.2.2.2.2.2.1 r.2.2.2.2.2.2.1 r.2.2.2.2.2.2.2)))) else some false) true := by
        cases g2 with
        | true =>
          refine Ev.with hg2 (ord_j0t a b r) (fun k q2 => ?_)
          rw [if_pos rfl, q2, Option.bind_some, if_pos rfl]
        | false =>
          by_cases hG : 1000 < r.2.2.1.length ∨ 1000 < r.2.2.2.1.length
          · refine Ev.with hg2 (ord_j0t a b r) (fun k q2 => ?_)
            rw [if_pos rfl, q2, Option.bind_some, if_neg (by decide), greatR_f, Option.bind_some, decide_eq_true hG]
          · refine Ev.with hg2 (ord_j0 a b r hau hbu ⟨hRU, by omega, by omega⟩) (fun k q2 => ?_)
            rw [if_pos rfl, q2, Option.bind_some, if_neg (by decide), greatR_f, Option.bind_some, decide_eq_false hG]
      refine Ev.with2 alive_ev hg1 hrest (fun k q q1 => ?_)
      unfold q18z.f
      rw [q, Option.bind_some, if_pos rfl, q1, Option.bind_some, if_neg (by decide), if_pos rfl]
  rw [ha, hb, hr] at main
  exact main.rounds
end Go.Proofs.Ytgelpccjdndfoaa.P

namespace Go.Proofs.Ytgelpccjdndfoaa.actOrder
open Go.ChangeShapes Go.WideShapes Go.ChangeAt Go.RowKit
open Go.ChangeMaps (open_string shut_string)
open Go.Proofs.YtgelpccjdndfoaaW.PrintWords Go.Proofs.YtgelpccjdndfoaaW.PrintLast Go.Proofs.YtgelpccjdndfoaaW.PrintMore Go.Proofs.Ytgelpccjdndfoaa.P
set_option linter.unusedVariables false
set_option linter.unusedSimpArgs false
theorem own : ownKnob Try.prog.godebug = none := by kernel_rfl
theorem laidOut : laidOutB Try.prog = true := by kernel_rfl
set_option maxRecDepth 100000 in
theorem lifted (os : Os) (started : os.Started) (H : Type) (enc : TypeId × Value → H) :
    ReturnsInHanded {} Try.checked os 7 .any (Rows.actOrderSpec.pre6 enc Try.prog Try.f7 Rows.actOrderRow.domain false) (Rows.actOrderSpec.post enc Try.prog Try.f7 false true false false) := by
  refine returnsInHanded_of_change_sized (C := Try.checked) own started (by kernel_rfl) Try.func7
    (ChangeSpec.witness6 (enc := enc) (C := Try.checked) false ⟨#[], #[.agg #[.int .i64 0, .int .u32 0, .slice none 0 0, .slice none 0 0], .agg #[.int .i64 0, .int .u32 0, .slice none 0 0, .slice none 0 0], .agg #[.int .u32 0, .int .i64 0, .slice none 0 0, .slice none 0 0, .int .u32 0, .int .u32 0, .int .i64 0, .int .u32 0]], []⟩ 8 (by kernel_rfl) (by kernel_rfl) (by kernel_rfl) (by kernel_rfl)) ?_
  intro W base args ds gs before hval0 hW hcnd hsz0 _
  have hval : ∀ (j : Nat) t v, Try.f7.params[j]? = some t → args[j]? = some v → Value.okWide Try.prog W .any base t v := hval0
  have hW' := hW
  obtain ⟨p, q, hA0, hV, rfl, hfz, hnd⟩ := hW
  have hA : DataW.TrodAll enc Try.prog W 0 (fun _ => true) true Try.f7.params.toList args.toList ds p := hA0
  rw [Try.params7] at hA hval
  obtain ⟨v0, vs0, d0, ds0, p0, q0, hargs, rfl, rfl, h0, r0⟩ := trodAll_cons hA
  obtain ⟨v1, vs1, d1, ds1, p1, q1, rfl, rfl, rfl, h1, r1⟩ := trodAll_cons r0
  obtain ⟨v2, vs2, d2, ds2, p2, q2, rfl, rfl, rfl, h2, r2⟩ := trodAll_cons r1
  obtain ⟨rfl, rfl, rfl⟩ := trodAll_nil r2
  obtain rfl : args = #[v0, v1, v2] := by cases args; simp_all
  obtain ⟨rfl, rfl⟩ := trodVars_none hV
  obtain ⟨cs0, rfl, hz0⟩ := okWide_struct Try.underlying26 (hval 0 26 v0 rfl rfl)
  have k0 := h0
  have lt0 : ∀ x ∈ p0, x.block < W.heap.size := by obtain ⟨m, hm⟩ := k0; exact DataW.trod_lt m _ _ _ hm
  obtain ⟨⟨l0_0, l0_1, l0_2, l0_3⟩, hK0, hg0⟩ : ∃ x_ : S26, k26.K W x_ cs0.toList ∧ good26 x_ := by obtain ⟨fuel, hf⟩ := h0; exact opens_T26 _ _ _ (by simpa [Value.cells] using hf)
  obtain ⟨A0_2_, c0_2_, A0_3_, c0_3_, hcs0, hle0_2, hC0_2, hle0_3, hC0_3⟩ := k26_open hK0
  obtain rfl : cs0 = #[.int .i64 l0_0, .int .u32 l0_1, .slice A0_2_ l0_2.length c0_2_, .slice A0_3_ l0_3.length c0_3_] := Array.ext' hcs0
  obtain ⟨g0_0, g0_1, g0_2, g0_3⟩ := hg0
  obtain ⟨cs1, rfl, hz1⟩ := okWide_struct Try.underlying26 (hval 1 26 v1 rfl rfl)
  have k1 := h1
  have lt1 : ∀ x ∈ p1, x.block < W.heap.size := by obtain ⟨m, hm⟩ := k1; exact DataW.trod_lt m _ _ _ hm
  obtain ⟨⟨l1_0, l1_1, l1_2, l1_3⟩, hK1, hg1⟩ : ∃ x_ : S26, k26.K W x_ cs1.toList ∧ good26 x_ := by obtain ⟨fuel, hf⟩ := h1; exact opens_T26 _ _ _ (by simpa [Value.cells] using hf)
  obtain ⟨A1_2_, c1_2_, A1_3_, c1_3_, hcs1, hle1_2, hC1_2, hle1_3, hC1_3⟩ := k26_open hK1
  obtain rfl : cs1 = #[.int .i64 l1_0, .int .u32 l1_1, .slice A1_2_ l1_2.length c1_2_, .slice A1_3_ l1_3.length c1_3_] := Array.ext' hcs1
  obtain ⟨g1_0, g1_1, g1_2, g1_3⟩ := hg1
  obtain ⟨cs2, rfl, hz2⟩ := okWide_struct Try.underlying30 (hval 2 30 v2 rfl rfl)
  have k2 := h2
  have lt2 : ∀ x ∈ p2, x.block < W.heap.size := by obtain ⟨m, hm⟩ := k2; exact DataW.trod_lt m _ _ _ hm
  obtain ⟨⟨⟨l2_0_0, l2_0_1⟩, l2_1, l2_2, l2_3, l2_4, l2_5, l2_6⟩, hK2, hg2⟩ : ∃ x_ : S30, k30.K W x_ cs2.toList ∧ good30 x_ := by obtain ⟨fuel, hf⟩ := h2; exact opens_T30 _ _ _ (by simpa [Value.cells] using hf)
  obtain ⟨A2_1_, c2_1_, A2_2_, c2_2_, hcs2, hle2_1, hC2_1, hle2_2, hC2_2⟩ := k30_open hK2
  obtain rfl : cs2 = #[.int .u32 l2_0_0, .int .i64 l2_0_1, .slice A2_1_ l2_1.length c2_1_, .slice A2_2_ l2_2.length c2_2_, .int .u32 l2_3, .int .u32 l2_4, .int .i64 l2_5, .int .u32 l2_6] := Array.ext' hcs2
  obtain ⟨⟨g2_0_0, g2_0_1⟩, g2_1, g2_2, g2_3, g2_4, g2_5, g2_6⟩ := hg2
  clear hA0 hval0 hsz0
  obtain ⟨k_, hk_⟩ := pure_ActOrder l0_0 l0_1 l0_2 l0_3 l1_0 l1_1 l1_2 l1_3 l2_0_0 l2_0_1 l2_1 l2_2 l2_3 l2_4 l2_5 l2_6 g0_0 g0_1 g0_2 g0_3 g1_0 g1_1 g1_2 g1_3 g2_0_0 g2_0_1 g2_1 g2_2 g2_3 g2_4 g2_5 g2_6
  refine (q18z.calls k_ l0_0 l0_1 (fun k_ => k_ < W.heap.size) A0_2_ c0_2_ l0_2 (fun k_ => k_ < W.heap.size) A0_3_ c0_3_ l0_3 l1_0 l1_1 (fun k_ => k_ < W.heap.size) A1_2_ c1_2_ l1_2 (fun k_ => k_ < W.heap.size) A1_3_ c1_3_ l1_3 l2_0_0 l2_0_1 A2_1_ c2_1_ l2_1 A2_2_ c2_2_ l2_2 l2_3 l2_4 l2_5 l2_6 true W (Kd.V_mk hle0_2 (Kd.C_F (Kd.heap_int .u32) hC0_2)) (Kd.V_mk hle0_3 (Kd.C_F (k53_heap) hC0_3)) (Kd.V_mk hle1_2 (Kd.C_F (Kd.heap_int .u32) hC1_2)) (Kd.V_mk hle1_3 (Kd.C_F (k53_heap) hC1_3)) hC2_1 hle2_1 hC2_2 hle2_2 hk_).mono fun e W' ⟨he, bel⟩ => ?_
  subst he
  exact ⟨_, rfl, _, _, _, [], _, [], hW', trodAll_mk1 (shut_bool Try.underlying4 _), (trodAll_cons_mk (Below.trod laidOut (by kernel_rfl) (of_decide_eq_true (by kernel_rfl)) k0 bel lt0) (trodAll_cons_mk (Below.trod laidOut (by kernel_rfl) (of_decide_eq_true (by kernel_rfl)) k1 bel lt1) (trodAll_cons_mk (Below.trod laidOut (by kernel_rfl) (of_decide_eq_true (by kernel_rfl)) k2 bel lt2) trodAll_mk0))), rfl, bel.frame _, fun h => by cases h⟩
theorem over : Rows.actOrderRow.holds Try.pinned (OpenSpec.ofChange Rows.actOrderSpec) :=
  OpenClaim.holds_of_wide 7 Try.f7 rfl rfl rfl rfl rfl rfl rfl ⟨rfl, rfl, rfl, rfl, rfl⟩ rfl rfl rfl rfl rfl (by kernel_rfl) Try.func7 (by kernel_rfl)
    (of_decide_eq_true (by kernel_rfl)) (by unfold Func.isWrapper; first | (rw [if_pos (by decide +kernel)]; kernel_rfl) | (rw [if_neg (by decide +kernel)]; exact ⟨rfl, rfl⟩))
    (fun os started H enc _ => lifted os started H enc)
theorem proved : Rows.ActOrderSaid := over
end Go.Proofs.Ytgelpccjdndfoaa.actOrder
namespace Go.Proofs.Ytgelpccjdndfoaa
/-- The row, under a short name, for the claim. -/
theorem actOrder_holds : Rows.ActOrderSaid := actOrder.proved
#print axioms actOrder_holds
end Go.Proofs.Ytgelpccjdndfoaa
