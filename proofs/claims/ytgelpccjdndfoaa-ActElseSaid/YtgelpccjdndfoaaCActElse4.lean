/-
  Proved: for every input the law ActElse answers true, and each argument reads behind the call as it read before.
  Conditions: none beside the row's own.
-/
import Derived.Test.YtgelpccjdndfoaaRows
import Derived.WalkKit
import Derived.ProofKit
import Derived.OpenShut
import Derived.ShutString
import Derived.ChangeOld
import Derived.Below
import Derived.SizedLaws
import Derived.Test.YtgelpccjdndfoaaCActElse0
import Derived.Test.YtgelpccjdndfoaaCActElse1
import Derived.Test.YtgelpccjdndfoaaCActElse2
import Derived.Test.YtgelpccjdndfoaaCActElse3
namespace Go.Proofs.Ytgelpccjdndfoaa.P
open Go.RowKit Go.Proofs.YtgelpccjdndfoaaW.PrintWords Go.Proofs.YtgelpccjdndfoaaW.PrintMore
set_option linter.unusedVariables false
set_option linter.unusedSimpArgs false
/-! No action changes a field that its kind does not name; twice is once. -/
theorem setU_ext (l r : List Int) (h : ∀ x, x ∈ l ↔ x ∈ r) : setU l = setU r := lt_unique _ _ (setU_lt l) (setU_lt r) (fun x => (setU_mem l x).trans ((h x).trans (setU_mem r x).symm))
theorem doR_off (a : AC) (r : R8) (h : rightB a = false) : doR a r = r := by unfold doR; rw [if_pos h]
theorem doR_fields (a : AC) (r : R8) : (doR a r).1 = r.1 ∧ (doR a r).2.1 = r.2.1 ∧ (a.f0 ≠ 5 → (doR a r).2.2.1 = r.2.2.1) ∧ (a.f0 ≤ 5 → (doR a r).2.2.2.1 = r.2.2.2.1) ∧ (a.f0 ≠ 1 → (doR a r).2.2.2.2.1 = r.2.2.2.2.1) ∧ (a.f0 ≠ 2 → (doR a r).2.2.2.2.2.1 = r.2.2.2.2.2.1) ∧ (a.f0 ≠ 3 → (doR a r).2.2.2.2.2.2.1 = r.2.2.2.2.2.2.1) ∧ (a.f0 ≠ 4 → (doR a r).2.2.2.2.2.2.2 = r.2.2.2.2.2.2.2) := by
  cases ha : rightB a with
  | false => rw [doR_off a r ha]; exact ⟨rfl, rfl, fun _ => rfl, fun _ => rfl, fun _ => rfl, fun _ => rfl, fun _ => rfl, fun _ => rfl⟩
  | true =>
    have ka := rightB_kind a ha
    have ca : a.f0 = 1 ∨ a.f0 = 2 ∨ a.f0 = 3 ∨ a.f0 = 4 ∨ a.f0 = 5 ∨ a.f0 = 6 ∨ a.f0 = 7 ∨ a.f0 = 8 := by omega
    rcases ca with ca | ca | ca | ca | ca | ca | ca | ca <;> simp [doR, ha, ca]
theorem doR_twice (a : AC) (r : R8) (h : a.f0 ≠ 5) : doR a (doR a r) = doR a r := by
  cases ha : rightB a with
  | false => rw [doR_off a _ ha]
  | true =>
    have ka := rightB_kind a ha
    have ca : a.f0 = 1 ∨ a.f0 = 2 ∨ a.f0 = 3 ∨ a.f0 = 4 ∨ a.f0 = 6 ∨ a.f0 = 7 ∨ a.f0 = 8 := by omega
    rcases ca with ca | ca | ca | ca | ca | ca | ca
    · simp [doR, ha, ca]
    · simp [doR, ha, ca]
    · simp [doR, ha, ca]
    · simp [doR, ha, ca]
    · have e : setU (setU (r.2.2.2.1 ++ a.f2) ++ a.f2) = setU (r.2.2.2.1 ++ a.f2) := setU_ext _ _ (fun x => by
        rw [List.mem_append, setU_mem, List.mem_append]
        constructor
        · rintro (h | h)
          · exact h
          · exact .inr h
        · exact .inl)
      simp [doR, ha, ca, e]
    · simp [doR, ha, ca]
    · have e : setU ((setU (r.2.2.2.1.filter (fun c => !takesB a.f3 [c]))).filter (fun c => !takesB a.f3 [c])) = setU (r.2.2.2.1.filter (fun c => !takesB a.f3 [c])) := setU_ext _ _ (fun x => by
        rw [List.mem_filter, setU_mem, List.mem_filter]
        exact ⟨fun h => h.1, fun h => ⟨h, h.2⟩⟩)
      simp [doR, ha, ca, e]
def elseT (k : Nat) (a : AC) (x : R8) : Option Bool := (q9z.f k a.f0 a.f1 a.f2 a.f3 x.1 x.2.1 x.2.2.1 x.2.2.2.1 x.2.2.2.2.1 x.2.2.2.2.2.1 x.2.2.2.2.2.2.1 x.2.2.2.2.2.2.2).bind fun bt => (q12z.f k bt.1 bt.2.1 bt.2.2.1 bt.2.2.2.1 bt.2.2.2.2.1 bt.2.2.2.2.2.1 bt.2.2.2.2.2.2.1 bt.2.2.2.2.2.2.2 x.1 x.2.1 x.2.2.1 x.2.2.2.1 x.2.2.2.2.1 x.2.2.2.2.2.1 x.2.2.2.2.2.2.1 x.2.2.2.2.2.2.2).bind fun t => (some (t == 0))
theorem elseT_ev (a : AC) (ha : AU a) (h : a.f0 ≠ 5) (r : R8) (hr : RB 10000 r) : Ev (fun k => elseT k a (doR a r)) true := by
  have hx := doR_RB a ha r 10000 (by decide) hr
  have e1 := do_ev a ha (doR a r) hx.1.2.2.2.1 (by have := hx.2.1; omega) (by have := hx.2.2; omega)
  rw [doR_twice a r h] at e1
  have e2 := refCmp_ev _ _ hx.1 hx.1
  rw [cmpR_ord.self] at e2
  refine Ev.with2 e1 e2 (Ev.now _) (fun k q1 q2 => ?_)
  unfold elseT
  rw [q1, Option.bind_some, q2, Option.bind_some]
  rfl
theorem else_j0t (a : AC) (r : R8) : Ev (fun k => q18z.j0 k true a.f0 a.f1 a.f2 a.f3 r.1 r.2.1 r.2.2.1 r.2.2.2.1 r.2.2.2.2.1 r.2.2.2.2.2.1 r.2.2.2.2.2.2.1 r.2.2.2.2.2.2.2) true := Ev.last (fun k => by
  simp only [q18z.j0]
  rw [if_pos trivial])
theorem else_j0 (a : AC) (r : R8) (ha : AU a) (hr : RB 10000 r) :
    Ev (fun k => q18z.j0 k false a.f0 a.f1 a.f2 a.f3 r.1 r.2.1 r.2.2.1 r.2.2.2.1 r.2.2.2.2.1 r.2.2.2.2.2.1 r.2.2.2.2.2.2.1 r.2.2.2.2.2.2.2) true := by
  have e1 := do_ev a ha r hr.1.2.2.2.1 (by have := hr.2.1; omega) (by have := hr.2.2; omega)
  have e2 := refCmp_ev r r hr.1 hr.1
  rw [cmpR_ord.self] at e2
  have hx := doR_RB a ha r 10000 (by decide) hr
  have hT : a.f0 ≠ 5 → Ev (fun k => elseT k a (doR a r)) true := fun h => elseT_ev a ha h r hr
  obtain ⟨f0, f1, f2, f3, f4, f5, f6, f7⟩ := doR_fields a r
  have hoff : ¬ (1 ≤ a.f0 ∧ a.f0 ≤ 8) → doR a r = r := fun h => by
    cases hb : rightB a with
    | false => exact doR_off a r hb
    | true => exact absurd (rightB_kind a hb) h
  have f3' : a.f0 ≤ 5 → (doR a r).2.2.2.1 = r.2.2.2.1 := f3
  generalize doR a r = x at *
  have hcp := refCopy_f x (by have := hx.2.1; omega) (by have := hx.2.2; omega)
  by_cases h5 : a.f0 = 5
  · refine Ev.use2 e1 e2 (Ev.now _) (fun k q1 q2 => ?_)
    have hq : q12z.f k x.1 x.2.1 r.2.2.1 x.2.2.2.1 x.2.2.2.2.1 x.2.2.2.2.2.1 x.2.2.2.2.2.2.1 x.2.2.2.2.2.2.2 r.1 r.2.1 r.2.2.1 r.2.2.2.1 r.2.2.2.2.1 r.2.2.2.2.2.1 r.2.2.2.2.2.2.1 r.2.2.2.2.2.2.2 = some 0 := by
      rw [f0, f1, f3 (by omega), f4 (by omega), f5 (by omega), f6 (by omega), f7 (by omega)]
      exact q2
    simp only [q18z.j0]
    rw [if_neg (by decide), q1, Option.bind_some, hcp, Option.bind_some, if_neg (by omega), if_neg (by omega), if_neg (by omega), if_neg (by omega), if_pos h5, hq, Option.bind_some, if_pos rfl]
  · have hT := hT h5
    by_cases h1 : a.f0 = 1
    · refine Ev.use2 e1 e2 hT (fun k q1 q2 => ?_)
      have hq : q12z.f k x.1 x.2.1 x.2.2.1 x.2.2.2.1 r.2.2.2.2.1 x.2.2.2.2.2.1 x.2.2.2.2.2.2.1 x.2.2.2.2.2.2.2 r.1 r.2.1 r.2.2.1 r.2.2.2.1 r.2.2.2.2.1 r.2.2.2.2.2.1 r.2.2.2.2.2.2.1 r.2.2.2.2.2.2.2 = some 0 := by
        rw [f0, f1, f2 (by omega), f3 (by omega), f5 (by omega), f6 (by omega), f7 (by omega)]
        exact q2
      simp only [q18z.j0]
      rw [if_neg (by decide), q1, Option.bind_some, hcp, Option.bind_some, if_pos h1, hq, Option.bind_some, if_pos rfl, if_neg h5]
      rfl
    · by_cases h2 : a.f0 = 2
      · refine Ev.use2 e1 e2 hT (fun k q1 q2 => ?_)
        have hq : q12z.f k x.1 x.2.1 x.2.2.1 x.2.2.2.1 x.2.2.2.2.1 r.2.2.2.2.2.1 x.2.2.2.2.2.2.1 x.2.2.2.2.2.2.2 r.1 r.2.1 r.2.2.1 r.2.2.2.1 r.2.2.2.2.1 r.2.2.2.2.2.1 r.2.2.2.2.2.2.1 r.2.2.2.2.2.2.2 = some 0 := by
          rw [f0, f1, f2 (by omega), f3 (by omega), f4 (by omega), f6 (by omega), f7 (by omega)]
          exact q2
        simp only [q18z.j0]
        rw [if_neg (by decide), q1, Option.bind_some, hcp, Option.bind_some, if_neg h1, if_pos h2, hq, Option.bind_some, if_pos rfl, if_neg h5]
        rfl
      · by_cases h3 : a.f0 = 3
        · refine Ev.use2 e1 e2 hT (fun k q1 q2 => ?_)
          have hq : q12z.f k x.1 x.2.1 x.2.2.1 x.2.2.2.1 x.2.2.2.2.1 x.2.2.2.2.2.1 r.2.2.2.2.2.2.1 x.2.2.2.2.2.2.2 r.1 r.2.1 r.2.2.1 r.2.2.2.1 r.2.2.2.2.1 r.2.2.2.2.2.1 r.2.2.2.2.2.2.1 r.2.2.2.2.2.2.2 = some 0 := by
            rw [f0, f1, f2 (by omega), f3 (by omega), f4 (by omega), f5 (by omega), f7 (by omega)]
            exact q2
          simp only [q18z.j0]
          rw [if_neg (by decide), q1, Option.bind_some, hcp, Option.bind_some, if_neg h1, if_neg h2, if_pos h3, hq, Option.bind_some, if_pos rfl, if_neg h5]
          rfl
        · by_cases h4 : a.f0 = 4
          · refine Ev.use2 e1 e2 hT (fun k q1 q2 => ?_)
            have hq : q12z.f k x.1 x.2.1 x.2.2.1 x.2.2.2.1 x.2.2.2.2.1 x.2.2.2.2.2.1 x.2.2.2.2.2.2.1 r.2.2.2.2.2.2.2 r.1 r.2.1 r.2.2.1 r.2.2.2.1 r.2.2.2.2.1 r.2.2.2.2.2.1 r.2.2.2.2.2.2.1 r.2.2.2.2.2.2.2 = some 0 := by
              rw [f0, f1, f2 (by omega), f3 (by omega), f4 (by omega), f5 (by omega), f6 (by omega)]
              exact q2
            simp only [q18z.j0]
            rw [if_neg (by decide), q1, Option.bind_some, hcp, Option.bind_some, if_neg h1, if_neg h2, if_neg h3, if_pos h4, hq, Option.bind_some, if_pos rfl, if_neg h5]
            rfl
          · refine Ev.use2 e1 e2 hT (fun k q1 q2 => ?_)
            have hq : q12z.f k x.1 x.2.1 x.2.2.1 r.2.2.2.1 x.2.2.2.2.1 x.2.2.2.2.2.1 x.2.2.2.2.2.2.1 x.2.2.2.2.2.2.2 r.1 r.2.1 r.2.2.1 r.2.2.2.1 r.2.2.2.2.1 r.2.2.2.2.2.1 r.2.2.2.2.2.2.1 r.2.2.2.2.2.2.2 = some 0 := by
              rw [f0, f1, f2 (by omega), f4 (by omega), f5 (by omega), f6 (by omega), f7 (by omega)]
              exact q2
            simp only [q18z.j0]
            rw [if_neg (by decide), q1, Option.bind_some, hcp, Option.bind_some, if_neg h1, if_neg h2, if_neg h3, if_neg h4, if_neg h5, hq, Option.bind_some, if_pos rfl]
            rfl
theorem pure_ActElse (a0_0 : Int) (a0_1 : Int) (l0_2 : List Int) (l0_3 : List (S53)) (a1_0_0 : Int) (a1_0_1 : Int) (l1_1 : List Int) (l1_2 : List Int) (a1_3 : Int) (a1_4 : Int) (a1_5 : Int) (a1_6 : Int) (h0 : (Lit.int .i64 a0_0).wf = true) (h1 : (Lit.int .u32 a0_1).wf = true) (h2 : (l0_2.length ≤ 9223372036854775807 ∧ ∀ z_ ∈ l0_2, (Lit.int .u32 z_).wf = true)) (h3 : (l0_3.length ≤ 9223372036854775807 ∧ ∀ z_ ∈ l0_3, good53 z_)) (h4 : (Lit.int .u32 a1_0_0).wf = true) (h5 : (Lit.int .i64 a1_0_1).wf = true) (h6 : (l1_1.length ≤ 9223372036854775807 ∧ ∀ z_ ∈ l1_1, (Lit.int .u32 z_).wf = true)) (h7 : (l1_2.length ≤ 9223372036854775807 ∧ ∀ z_ ∈ l1_2, (Lit.int .u32 z_).wf = true)) (h8 : (Lit.int .u32 a1_3).wf = true) (h9 : (Lit.int .u32 a1_4).wf = true) (h10 : (Lit.int .i64 a1_5).wf = true) (h11 : (Lit.int .u32 a1_6).wf = true) : ∃ k, q18z.f k a0_0 a0_1 l0_2 l0_3 a1_0_0 a1_0_1 l1_1 l1_2 a1_3 a1_4 a1_5 a1_6 = some true := by
  obtain ⟨r, hr⟩ : ∃ r : R8, r = (a1_0_0, a1_0_1, l1_1, l1_2, a1_3, a1_4, a1_5, a1_6) := ⟨_, rfl⟩
  have hRU : RU r := by rw [hr]; exact ⟨u32_of h4, i64_of h5, lu_of h6, lu_of h7, u32_of h8, u32_of h9, i64_of h10, u32_of h11⟩
  obtain ⟨a, ha⟩ : ∃ a : AC, a = ⟨a0_0, a0_1, l0_2, l0_3⟩ := ⟨_, rfl⟩
  have hau : AU a := by rw [ha]; exact aU_of ⟨h0, h1, h2, h3⟩
  have main : Ev (fun k => q18z.f k a.f0 a.f1 a.f2 a.f3 r.1 r.2.1 r.2.2.1 r.2.2.2.1 r.2.2.2.2.1 r.2.2.2.2.2.1 r.2.2.2.2.2.2.1 r.2.2.2.2.2.2.2) true := by
    obtain ⟨g1, hg1⟩ := refGreat_ev a hau
    cases g1 with
    | true =>
      refine Ev.with2 alive_ev hg1 (else_j0t a r) (fun k q q1 => ?_)
      unfold q18z.f
      rw [q, Option.bind_some, if_pos rfl, q1, Option.bind_some, if_pos rfl]
    | false =>
      by_cases hG : 1000 < r.2.2.1.length ∨ 1000 < r.2.2.2.1.length
      · refine Ev.with2 alive_ev hg1 (else_j0t a r) (fun k q q1 => ?_)
        unfold q18z.f
        rw [q, Option.bind_some, if_pos rfl, q1, Option.bind_some, if_neg (by decide), greatR_f, Option.bind_some, decide_eq_true hG]
      · refine Ev.with2 alive_ev hg1 (else_j0 a r hau ⟨hRU, by omega, by omega⟩) (fun k q q1 => ?_)
        unfold q18z.f
        rw [q, Option.bind_some, if_pos rfl, q1, Option.bind_some, if_neg (by decide), greatR_f, Option.bind_some, decide_eq_false hG]
  rw [ha, hr] at main
  exact main.rounds
end Go.Proofs.Ytgelpccjdndfoaa.P

namespace Go.Proofs.Ytgelpccjdndfoaa.actElse
open Go.ChangeShapes Go.WideShapes Go.ChangeAt Go.RowKit
open Go.ChangeMaps (open_string shut_string)
open Go.Proofs.YtgelpccjdndfoaaW.PrintWords Go.Proofs.YtgelpccjdndfoaaW.PrintLast Go.Proofs.YtgelpccjdndfoaaW.PrintMore Go.Proofs.Ytgelpccjdndfoaa.P
set_option linter.unusedVariables false
set_option linter.unusedSimpArgs false
theorem own : ownKnob Try.prog.godebug = none := by kernel_rfl
theorem laidOut : laidOutB Try.prog = true := by kernel_rfl
set_option maxRecDepth 100000 in
theorem lifted (os : Os) (started : os.Started) (H : Type) (enc : TypeId × Value → H) :
    ReturnsInHanded {} Try.checked os 5 .any (Rows.actElseSpec.pre6 enc Try.prog Try.f5 Rows.actElseRow.domain false) (Rows.actElseSpec.post enc Try.prog Try.f5 false true false false) := by
  refine returnsInHanded_of_change_sized (C := Try.checked) own started (by kernel_rfl) Try.func5
    (ChangeSpec.witness6 (enc := enc) (C := Try.checked) false ⟨#[], #[.agg #[.int .i64 0, .int .u32 0, .slice none 0 0, .slice none 0 0], .agg #[.int .u32 0, .int .i64 0, .slice none 0 0, .slice none 0 0, .int .u32 0, .int .u32 0, .int .i64 0, .int .u32 0]], []⟩ 8 (by kernel_rfl) (by kernel_rfl) (by kernel_rfl) (by kernel_rfl)) ?_
  intro W base args ds gs before hval0 hW hcnd hsz0 _
  have hval : ∀ (j : Nat) t v, Try.f5.params[j]? = some t → args[j]? = some v → Value.okWide Try.prog W .any base t v := hval0
  have hW' := hW
  obtain ⟨p, q, hA0, hV, rfl, hfz, hnd⟩ := hW
  have hA : DataW.TrodAll enc Try.prog W 0 (fun _ => true) true Try.f5.params.toList args.toList ds p := hA0
  rw [Try.params5] at hA hval
  obtain ⟨v0, vs0, d0, ds0, p0, q0, hargs, rfl, rfl, h0, r0⟩ := trodAll_cons hA
  obtain ⟨v1, vs1, d1, ds1, p1, q1, rfl, rfl, rfl, h1, r1⟩ := trodAll_cons r0
  obtain ⟨rfl, rfl, rfl⟩ := trodAll_nil r1
  obtain rfl : args = #[v0, v1] := by cases args; simp_all
  obtain ⟨rfl, rfl⟩ := trodVars_none hV
  obtain ⟨cs0, rfl, hz0⟩ := okWide_struct Try.underlying26 (hval 0 26 v0 rfl rfl)
  have k0 := h0
  have lt0 : ∀ x ∈ p0, x.block < W.heap.size := by obtain ⟨m, hm⟩ := k0; exact DataW.trod_lt m _ _ _ hm
  obtain ⟨⟨l0_0, l0_1, l0_2, l0_3⟩, hK0, hg0⟩ : ∃ x_ : S26, k26.K W x_ cs0.toList ∧ good26 x_ := by obtain ⟨fuel, hf⟩ := h0; exact opens_T26 _ _ _ (by simpa [Value.cells] using hf)
  obtain ⟨A0_2_, c0_2_, A0_3_, c0_3_, hcs0, hle0_2, hC0_2, hle0_3, hC0_3⟩ := k26_open hK0
  obtain rfl : cs0 = #[.int .i64 l0_0, .int .u32 l0_1, .slice A0_2_ l0_2.length c0_2_, .slice A0_3_ l0_3.length c0_3_] := Array.ext' hcs0
  obtain ⟨g0_0, g0_1, g0_2, g0_3⟩ := hg0
  obtain ⟨cs1, rfl, hz1⟩ := okWide_struct Try.underlying30 (hval 1 30 v1 rfl rfl)
  have k1 := h1
  have lt1 : ∀ x ∈ p1, x.block < W.heap.size := by obtain ⟨m, hm⟩ := k1; exact DataW.trod_lt m _ _ _ hm
  obtain ⟨⟨⟨l1_0_0, l1_0_1⟩, l1_1, l1_2, l1_3, l1_4, l1_5, l1_6⟩, hK1, hg1⟩ : ∃ x_ : S30, k30.K W x_ cs1.toList ∧ good30 x_ := by obtain ⟨fuel, hf⟩ := h1; exact opens_T30 _ _ _ (by simpa [Value.cells] using hf)
  obtain ⟨A1_1_, c1_1_, A1_2_, c1_2_, hcs1, hle1_1, hC1_1, hle1_2, hC1_2⟩ := k30_open hK1
  obtain rfl : cs1 = #[.int .u32 l1_0_0, .int .i64 l1_0_1, .slice A1_1_ l1_1.length c1_1_, .slice A1_2_ l1_2.length c1_2_, .int .u32 l1_3, .int .u32 l1_4, .int .i64 l1_5, .int .u32 l1_6] := Array.ext' hcs1
  obtain ⟨⟨g1_0_0, g1_0_1⟩, g1_1, g1_2, g1_3, g1_4, g1_5, g1_6⟩ := hg1
  clear hA0 hval0 hsz0
  obtain ⟨k_, hk_⟩ := pure_ActElse l0_0 l0_1 l0_2 l0_3 l1_0_0 l1_0_1 l1_1 l1_2 l1_3 l1_4 l1_5 l1_6 g0_0 g0_1 g0_2 g0_3 g1_0_0 g1_0_1 g1_1 g1_2 g1_3 g1_4 g1_5 g1_6
  refine (q18z.calls k_ l0_0 l0_1 A0_2_ c0_2_ l0_2 A0_3_ c0_3_ l0_3 l1_0_0 l1_0_1 A1_1_ c1_1_ l1_1 A1_2_ c1_2_ l1_2 l1_3 l1_4 l1_5 l1_6 true W hC0_2 hle0_2 hC0_3 hle0_3 hC1_1 hle1_1 hC1_2 hle1_2 hk_).mono fun e W' ⟨he, bel⟩ => ?_
  subst he
  exact ⟨_, rfl, _, _, _, [], _, [], hW', trodAll_mk1 (shut_bool Try.underlying4 _), (trodAll_cons_mk (Below.trod laidOut (by kernel_rfl) (of_decide_eq_true (by kernel_rfl)) k0 bel lt0) (trodAll_cons_mk (Below.trod laidOut (by kernel_rfl) (of_decide_eq_true (by kernel_rfl)) k1 bel lt1) trodAll_mk0)), rfl, bel.frame _, fun h => by cases h⟩
theorem over : Rows.actElseRow.holds Try.pinned (OpenSpec.ofChange Rows.actElseSpec) :=
  OpenClaim.holds_of_wide 5 Try.f5 rfl rfl rfl rfl rfl rfl rfl ⟨rfl, rfl, rfl, rfl, rfl⟩ rfl rfl rfl rfl rfl (by kernel_rfl) Try.func5 (by kernel_rfl)
    (of_decide_eq_true (by kernel_rfl)) (by unfold Func.isWrapper; first | (rw [if_pos (by decide +kernel)]; kernel_rfl) | (rw [if_neg (by decide +kernel)]; exact ⟨rfl, rfl⟩))
    (fun os started H enc _ => lifted os started H enc)
theorem proved : Rows.ActElseSaid := over
end Go.Proofs.Ytgelpccjdndfoaa.actElse
namespace Go.Proofs.Ytgelpccjdndfoaa
/-- The row, under a short name, for the claim. -/
theorem actElse_holds : Rows.ActElseSaid := actElse.proved
#print axioms actElse_holds
end Go.Proofs.Ytgelpccjdndfoaa
