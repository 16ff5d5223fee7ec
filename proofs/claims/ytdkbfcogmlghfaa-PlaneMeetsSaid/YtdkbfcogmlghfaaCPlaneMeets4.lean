/-
  Proved: for every input the law PlaneMeets answers true, and each argument reads behind the call as it read before.
  Conditions: none beside the row's own.
-/
import Derived.Test.YtdkbfcogmlghfaaRows
import Derived.WalkKit
import Derived.ProofKit
import Derived.OpenShut
import Derived.ShutString
import Derived.ChangeOld
import Derived.Below
import Derived.SizedLaws
import Derived.Test.YtdkbfcogmlghfaaCPlaneMeets0
import Derived.Test.YtdkbfcogmlghfaaCPlaneMeets1
import Derived.Test.YtdkbfcogmlghfaaCPlaneMeets2
import Derived.Test.YtdkbfcogmlghfaaCPlaneMeets3
namespace Go.Proofs.Ytdkbfcogmlghfaa.P
open Go.RowKit Go.Proofs.YtdkbfcogmlghfaaW.PrintWords Go.Proofs.YtdkbfcogmlghfaaW.PrintMore
set_option linter.unusedVariables false
set_option linter.unusedSimpArgs false
theorem mx_nat (a b : Nat) : mx (a : Int) (b : Int) = ((max a b : Nat) : Int) := by unfold mx; split <;> omega
theorem mn_nat (a b : Nat) : mn (a : Int) (b : Int) = ((min a b : Nat) : Int) := by unfold mn; split <;> omega
theorem u32_nat {a : Int} (h : (Lit.int .u32 a).wf = true) : ∃ n : Nat, a = (n : Int) ∧ n < 4294967296 := by
  simp [Lit.wf, IntKind.min, IntKind.max, IntKind.signed, IntKind.bits] at h
  exact ⟨a.toNat, by omega, by omega⟩
theorem u32B_of (n : Nat) (h : n < 4294967296) : u32B (n : Int) = true := by unfold u32B; simp; omega
theorem in_f (lo hi c : Nat) (h1 : lo < 4294967296) (h2 : hi < 4294967296) (h3 : c < 4294967296) : plane_In.f (lo : Int) (hi : Int) (c : Int) = some (inB lo hi c) := by
  unfold plane_In.f
  rw [u32B_of lo h1, u32B_of hi h2, u32B_of c h3, if_pos (by rfl)]
  simp only [Int.toNat_natCast]
theorem meet_f (al ah bl bh : Nat) (h1 : al < 4294967296) (h2 : ah < 4294967296) (h3 : bl < 4294967296) (h4 : bh < 4294967296) : plane_Meet.f (al : Int) (ah : Int) (bl : Int) (bh : Int) = some (meetN al ah bl bh) := by
  unfold plane_Meet.f
  rw [u32B_of al h1, u32B_of ah h2, u32B_of bl h3, u32B_of bh h4, if_pos (by rfl)]
  simp only [Int.toNat_natCast]
theorem refMeet_f (al ah bl bh : Nat) (h1 : al < 4294967296) (h2 : ah < 4294967296) (h3 : bl < 4294967296) (h4 : bh < 4294967296) : q1z.f (al : Int) (ah : Int) (bl : Int) (bh : Int) = some (meetN al ah bl bh) := by
  unfold q1z.f meetN
  rw [quoN al h1, quoN ah h2, quoN bl h3, quoN bh h4, remN al, remN ah, remN bl, remN bh, mx_nat, mx_nat, mn_nat, mn_nat]
  have x1 : al / 65536 < 65536 := by omega
  have x2 : ah / 65536 < 65536 := by omega
  have x3 : bl / 65536 < 65536 := by omega
  have x4 : bh / 65536 < 65536 := by omega
  have y1 : al % 65536 < 65536 := by omega
  have y2 : ah % 65536 < 65536 := by omega
  have y3 : bl % 65536 < 65536 := by omega
  have y4 : bh % 65536 < 65536 := by omega
  generalize al / 65536 = a at x1 ⊢
  generalize ah / 65536 = b at x2 ⊢
  generalize bl / 65536 = c at x3 ⊢
  generalize bh / 65536 = d at x4 ⊢
  generalize al % 65536 = a' at y1 ⊢
  generalize ah % 65536 = b' at y2 ⊢
  generalize bl % 65536 = c' at y3 ⊢
  generalize bh % 65536 = d' at y4 ⊢
  obtain ⟨p, hp⟩ : ∃ p, p = max a c := ⟨_, rfl⟩
  obtain ⟨q, hq⟩ : ∃ q, q = min b d := ⟨_, rfl⟩
  obtain ⟨p', hp'⟩ : ∃ p, p = max a' c' := ⟨_, rfl⟩
  obtain ⟨q', hq'⟩ : ∃ q, q = min b' d' := ⟨_, rfl⟩
  rw [← hp, ← hq, ← hp', ← hq']
  have b1 : p < 65536 := by omega
  have b2 : q < 65536 := by omega
  have b3 : p' < 65536 := by omega
  have b4 : q' < 65536 := by omega
  by_cases c1 : p ≤ q
  · rw [if_neg (by omega), decide_eq_true c1, Bool.true_and]
    by_cases c2 : p' ≤ q'
    · rw [if_neg (by omega), decide_eq_true c2, if_pos rfl]
      congr 2
      · omega
      · congr 1
        omega
    · rw [if_pos (by omega), decide_eq_false c2, if_neg (by decide)]
  · rw [if_pos (by omega), decide_eq_false c1, Bool.false_and, if_neg (by decide)]
/-- The box that lies in both, with its ends as numbers. -/
theorem meetN_no (al ah bl bh : Nat) (h : (meetN al ah bl bh).2.2 = false) (c : Nat) : (inB al ah c && inB bl bh c) = false := by
  unfold meetN at h
  split at h
  · simp at h
  · rename_i hn
    rw [Bool.eq_false_iff]
    intro hc
    apply hn
    simp only [inB, withinN, Bool.and_eq_true, decide_eq_true_eq] at hc ⊢
    omega
theorem meetN_yes (al ah bl bh : Nat) (h1 : al < 4294967296) (h2 : ah < 4294967296) (h3 : bl < 4294967296) (h4 : bh < 4294967296) (h : (meetN al ah bl bh).2.2 = true) :
    ∃ m n : Nat, (meetN al ah bl bh).1 = (m : Int) ∧ (meetN al ah bl bh).2.1 = (n : Int) ∧ m < 4294967296 ∧ n < 4294967296 ∧ m / 65536 = max (al / 65536) (bl / 65536) ∧ m % 65536 = max (al % 65536) (bl % 65536) ∧ n / 65536 = min (ah / 65536) (bh / 65536) ∧ n % 65536 = min (ah % 65536) (bh % 65536) := by
  unfold meetN at h ⊢
  split at h
  · rename_i hn
    rw [if_pos hn]
    exact ⟨_, _, rfl, rfl, by omega, by omega, by omega, by omega, by omega, by omega⟩
  · simp at h
theorem inB_meet (al ah bl bh m n c : Nat) (e1 : m / 65536 = max (al / 65536) (bl / 65536)) (e2 : m % 65536 = max (al % 65536) (bl % 65536)) (e3 : n / 65536 = min (ah / 65536) (bh / 65536)) (e4 : n % 65536 = min (ah % 65536) (bh % 65536)) : inB m n c = (inB al ah c && inB bl bh c) := by
  rw [Bool.eq_iff_iff]
  simp only [inB, withinN, Bool.and_eq_true, decide_eq_true_eq, e1, e2, e3, e4]
  omega
end Go.Proofs.Ytdkbfcogmlghfaa.P

namespace Go.Proofs.Ytdkbfcogmlghfaa.P
open Go.RowKit Go.Proofs.YtdkbfcogmlghfaaW.PrintWords Go.Proofs.YtdkbfcogmlghfaaW.PrintMore
theorem alive_ev : Ev (fun k => q5z.f k) true := by
  refine ⟨60, fun k hk => ?_⟩
  obtain ⟨m, rfl⟩ : ∃ m, k = m + 60 := ⟨k - 60, by omega⟩
  kernel_rfl
end Go.Proofs.Ytdkbfcogmlghfaa.P

namespace Go.Proofs.Ytdkbfcogmlghfaa.P
open Go.RowKit Go.Proofs.YtdkbfcogmlghfaaW.PrintWords Go.Proofs.YtdkbfcogmlghfaaW.PrintMore
set_option linter.unusedVariables false
set_option linter.unusedSimpArgs false
theorem pure_PlaneMeets (a0_0 : Int) (a0_1 : Int) (a1_0 : Int) (a1_1 : Int) (a2 : Int) (h0 : (Lit.int .u32 a0_0).wf = true) (h1 : (Lit.int .u32 a0_1).wf = true) (h2 : (Lit.int .u32 a1_0).wf = true) (h3 : (Lit.int .u32 a1_1).wf = true) (h4 : (Lit.int .u32 a2).wf = true) : ∃ k, q6z.f k a0_0 a0_1 a1_0 a1_1 a2 = some true := by
  obtain ⟨al, rfl, b0⟩ := u32_nat h0
  obtain ⟨ah, rfl, b1⟩ := u32_nat h1
  obtain ⟨bl, rfl, b2⟩ := u32_nat h2
  obtain ⟨bh, rfl, b3⟩ := u32_nat h3
  obtain ⟨c, rfl, b4⟩ := u32_nat h4
  obtain ⟨K, e0⟩ := alive_ev
  have ea : q5z.f (K + 1) = some true := e0 (K + 1) (by omega)
  refine ⟨K + 1, ?_⟩
  unfold q6z.f
  rw [ea, Option.bind_some, if_pos rfl, meet_f al ah bl bh b0 b1 b2 b3, Option.bind_some, refMeet_f al ah bl bh b0 b1 b2 b3, Option.bind_some]
  rw [if_neg (by simp), bne_self_eq_false]
  simp only [q6z.j0]
  rw [if_neg (by decide), in_f al ah c b0 b1 b4, in_f bl bh c b2 b3 b4]
  cases hok : (meetN al ah bl bh).2.2 with
  | false =>
    have hn := meetN_no al ah bl bh hok c
    rw [if_neg (by decide), Option.bind_some]
    cases ha : inB al ah c with
    | false => rw [if_neg (by decide)]; rfl
    | true =>
      rw [ha, Bool.true_and] at hn
      rw [if_pos rfl, Option.bind_some, hn]
      rfl
  | true =>
    obtain ⟨m, n, e1, e2, l1, l2, d1, d2, d3, d4⟩ := meetN_yes al ah bl bh b0 b1 b2 b3 hok
    have hm := inB_meet al ah bl bh m n c d1 d2 d3 d4
    rw [if_pos rfl, e1, e2, in_f m n c l1 l2 b4, Option.bind_some, Option.bind_some, hm]
    cases ha : inB al ah c with
    | false => rw [if_neg (by decide)]; rfl
    | true => rw [if_pos rfl, Option.bind_some, Bool.true_and, beq_self_eq_true]
end Go.Proofs.Ytdkbfcogmlghfaa.P

namespace Go.Proofs.Ytdkbfcogmlghfaa.planeMeets
open Go.ChangeShapes Go.WideShapes Go.ChangeAt Go.RowKit
open Go.ChangeMaps (open_string shut_string)
open Go.Proofs.YtdkbfcogmlghfaaW.PrintWords Go.Proofs.YtdkbfcogmlghfaaW.PrintLast Go.Proofs.YtdkbfcogmlghfaaW.PrintMore Go.Proofs.Ytdkbfcogmlghfaa.P
set_option linter.unusedVariables false
set_option linter.unusedSimpArgs false
theorem own : ownKnob Try.prog.godebug = none := by kernel_rfl
theorem laidOut : laidOutB Try.prog = true := by kernel_rfl
set_option maxRecDepth 100000 in
theorem lifted (os : Os) (started : os.Started) (H : Type) (enc : TypeId × Value → H) :
    ReturnsInHanded {} Try.checked os 3 .any (Rows.planeMeetsSpec.pre6 enc Try.prog Try.f3 Rows.planeMeetsRow.domain false) (Rows.planeMeetsSpec.post enc Try.prog Try.f3 false true false false) := by
  refine returnsInHanded_of_change_sized (C := Try.checked) own started (by kernel_rfl) Try.func3
    (ChangeSpec.witness6 (enc := enc) (C := Try.checked) false ⟨#[], #[.agg #[.int .u32 0, .int .u32 0], .agg #[.int .u32 0, .int .u32 0], .int .u32 0], []⟩ 8 (by kernel_rfl) (by kernel_rfl) (by kernel_rfl) (by kernel_rfl)) ?_
  intro W base args ds gs before hval0 hW hcnd hsz0 _
  have hval : ∀ (j : Nat) t v, Try.f3.params[j]? = some t → args[j]? = some v → Value.okWide Try.prog W .any base t v := hval0
  have hW' := hW
  obtain ⟨p, q, hA0, hV, rfl, hfz, hnd⟩ := hW
  have hA : DataW.TrodAll enc Try.prog W 0 (fun _ => true) true Try.f3.params.toList args.toList ds p := hA0
  rw [Try.params3] at hA hval
  obtain ⟨v0, vs0, d0, ds0, p0, q0, hargs, rfl, rfl, h0, r0⟩ := trodAll_cons hA
  obtain ⟨v1, vs1, d1, ds1, p1, q1, rfl, rfl, rfl, h1, r1⟩ := trodAll_cons r0
  obtain ⟨v2, vs2, d2, ds2, p2, q2, rfl, rfl, rfl, h2, r2⟩ := trodAll_cons r1
  obtain ⟨rfl, rfl, rfl⟩ := trodAll_nil r2
  obtain rfl : args = #[v0, v1, v2] := by cases args; simp_all
  obtain ⟨rfl, rfl⟩ := trodVars_none hV
  obtain ⟨cs0, rfl, hz0⟩ := okWide_struct Try.underlying24 (hval 0 24 v0 rfl rfl)
  have k0 := h0
  have lt0 : ∀ x ∈ p0, x.block < W.heap.size := by obtain ⟨m, hm⟩ := k0; exact DataW.trod_lt m _ _ _ hm
  obtain ⟨⟨l0_0, l0_1⟩, hK0, hg0⟩ : ∃ x_ : S24, k24.K W x_ cs0.toList ∧ good24 x_ := by obtain ⟨fuel, hf⟩ := h0; exact opens_T24 _ _ _ (by simpa [Value.cells] using hf)
  have hcs0 := k24_open hK0
  obtain rfl : cs0 = #[.int .u32 l0_0, .int .u32 l0_1] := Array.ext' hcs0
  obtain ⟨g0_0, g0_1⟩ := hg0
  obtain ⟨cs1, rfl, hz1⟩ := okWide_struct Try.underlying24 (hval 1 24 v1 rfl rfl)
  have k1 := h1
  have lt1 : ∀ x ∈ p1, x.block < W.heap.size := by obtain ⟨m, hm⟩ := k1; exact DataW.trod_lt m _ _ _ hm
  obtain ⟨⟨l1_0, l1_1⟩, hK1, hg1⟩ : ∃ x_ : S24, k24.K W x_ cs1.toList ∧ good24 x_ := by obtain ⟨fuel, hf⟩ := h1; exact opens_T24 _ _ _ (by simpa [Value.cells] using hf)
  have hcs1 := k24_open hK1
  obtain rfl : cs1 = #[.int .u32 l1_0, .int .u32 l1_1] := Array.ext' hcs1
  obtain ⟨g1_0, g1_1⟩ := hg1
  obtain ⟨a2, rfl, rfl, rfl, w2⟩ := open_int Try.underlying22 (hval 2 22 v2 rfl rfl) h2
  clear hA0 hval0 hsz0
  obtain ⟨k_, hk_⟩ := pure_PlaneMeets l0_0 l0_1 l1_0 l1_1 a2 g0_0 g0_1 g1_0 g1_1 w2
  refine (q6z.calls k_ l0_0 l0_1 l1_0 l1_1 a2 true W  hk_).mono fun e W' ⟨he, bel⟩ => ?_
  subst he
  exact ⟨_, rfl, _, _, _, [], _, [], hW', trodAll_mk1 (shut_bool Try.underlying4 _), (trodAll_cons_mk (Below.trod laidOut (by kernel_rfl) (of_decide_eq_true (by kernel_rfl)) k0 bel lt0) (trodAll_cons_mk (Below.trod laidOut (by kernel_rfl) (of_decide_eq_true (by kernel_rfl)) k1 bel lt1) (trodAll_cons_mk (shut_int Try.underlying22 w2) trodAll_mk0))), rfl, bel.frame _, fun h => by cases h⟩
theorem over : Rows.planeMeetsRow.holds Try.pinned (OpenSpec.ofChange Rows.planeMeetsSpec) :=
  OpenClaim.holds_of_wide 3 Try.f3 rfl rfl rfl rfl rfl rfl rfl ⟨rfl, rfl, rfl, rfl, rfl⟩ rfl rfl rfl rfl rfl (by kernel_rfl) Try.func3 (by kernel_rfl)
    (of_decide_eq_true (by kernel_rfl)) (by unfold Func.isWrapper; first | (rw [if_pos (by decide +kernel)]; kernel_rfl) | (rw [if_neg (by decide +kernel)]; exact ⟨rfl, rfl⟩))
    (fun os started H enc _ => lifted os started H enc)
theorem proved : Rows.PlaneMeetsSaid := over
end Go.Proofs.Ytdkbfcogmlghfaa.planeMeets
namespace Go.Proofs.Ytdkbfcogmlghfaa
/-- The row, under a short name, for the claim. -/
theorem planeMeets_holds : Rows.PlaneMeetsSaid := planeMeets.proved
#print axioms planeMeets_holds
end Go.Proofs.Ytdkbfcogmlghfaa
