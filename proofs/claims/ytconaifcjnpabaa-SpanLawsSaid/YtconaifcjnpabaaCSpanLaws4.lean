/-
  Proved: for every input the law SpanLaws answers true, and each argument reads behind the call as it read before.
  Conditions: none beside the row's own.
-/
import Derived.Test.YtconaifcjnpabaaRows
import Derived.WalkKit
import Derived.ProofKit
import Derived.OpenShut
import Derived.ShutString
import Derived.ChangeOld
import Derived.Below
import Derived.SizedLaws
import Derived.Test.YtconaifcjnpabaaCSpanLaws0
import Derived.Test.YtconaifcjnpabaaCSpanLaws1
import Derived.Test.YtconaifcjnpabaaCSpanLaws2
import Derived.Test.YtconaifcjnpabaaCSpanLaws3
namespace Go.Proofs.Ytconaifcjnpabaa.P
open Go.RowKit Go.Proofs.YtconaifcjnpabaaW.PrintWords Go.Proofs.YtconaifcjnpabaaW.PrintMore
set_option linter.unusedVariables false
set_option linter.unusedSimpArgs false
theorem norm_eq (l r : List S33) (hl : l.length ≤ 1000000) (hr : Rng l) (hn : NF r) (h : ∀ n, InS r n = InS l n) : Ev (fun k => q1z.f k l) r := by
  obtain ⟨t, h1, h2, h3, _⟩ := norm_ev l hl hr
  rwa [nf_ext h2 hn (fun n => by rw [h3, h])] at h1
theorem nf1 (a b : Int) (h0 : 0 ≤ a) (h1 : a ≤ b) (h2 : b ≤ 4294967295) : NF [⟨a, b⟩] := NF_cons.2 ⟨⟨h0, h1, h2⟩, fun _ h => (List.not_mem_nil h).elim, NF_nil⟩
theorem rng1 (a b : Int) (h0 : 0 ≤ a) (h1 : a ≤ b) (h2 : b ≤ 4294967295) : Rng [⟨a, b⟩] := NF_Rng (nf1 a b h0 h1 h2)
theorem rng_cons (a b : Int) (l : List S33) (h : 0 ≤ a ∧ a ≤ 4294967295 ∧ 0 ≤ b ∧ b ≤ 4294967295) (hl : Rng l) : Rng (⟨a, b⟩ :: l) := fun s hs => by
  rcases List.mem_cons.1 hs with rfl | hs
  · exact h
  · exact hl s hs
theorem atoms_tail : ∀ m, q8z.l0 (m + 40) [2, 6, 4, 10] [[⟨2, 5⟩], [⟨4, 9⟩]] 2 2 = some [⟨0, 1⟩, ⟨2, 3⟩, ⟨4, 5⟩, ⟨6, 9⟩, ⟨10, 4294967295⟩] := by
  intro m
  kernel_rfl
theorem alive_ev : Ev (fun k => q9z.f k) true := by
  have h1 := norm_eq [⟨5, 7⟩, ⟨1, 2⟩, ⟨3, 4⟩, ⟨9, 8⟩] [⟨1, 7⟩] (by decide) (rng_cons _ _ _ (by decide) (rng_cons _ _ _ (by decide) (rng_cons _ _ _ (by decide) (rng_cons _ _ _ (by decide) (fun s hs => (List.not_mem_nil hs).elim))))) (nf1 _ _ (by decide) (by decide) (by decide)) (fun n => by
    rw [Bool.eq_iff_iff]
    simp only [InS, List.any_cons, List.any_nil, Bool.or_false, Bool.or_eq_true, inSpan_iff]
    omega)
  obtain ⟨t, n1, n2, n3, _⟩ := not_ev [⟨0, 4⟩] (by decide) (rng1 _ _ (by decide) (by decide) (by decide))
  have ht : t = [⟨5, 4294967295⟩] := nf_ext n2 (nf1 _ _ (by decide) (by decide) (by decide)) (fun n => by
    rw [n3, Bool.eq_iff_iff]
    simp only [InS, List.any_cons, List.any_nil, Bool.or_false, Bool.and_eq_true, decide_eq_true_eq, Bool.not_eq_true', inSpan, Bool.and_eq_false_iff, decide_eq_false_iff_not]
    omega)
  subst ht
  have a1 := norm_eq [⟨2, 5⟩] [⟨2, 5⟩] (by decide) (rng1 _ _ (by decide) (by decide) (by decide)) (nf1 _ _ (by decide) (by decide) (by decide)) (fun _ => rfl)
  have a2 := norm_eq [⟨4, 9⟩] [⟨4, 9⟩] (by decide) (rng1 _ _ (by decide) (by decide) (by decide)) (nf1 _ _ (by decide) (by decide) (by decide)) (fun _ => rfl)
  have at_ : Ev (fun k => q8z.f k [[⟨2, 5⟩], [⟨4, 9⟩]]) [⟨0, 1⟩, ⟨2, 3⟩, ⟨4, 5⟩, ⟨6, 9⟩, ⟨10, 4294967295⟩] := by
    refine Ev.step (g := fun k => q8z.l0 k [] [[⟨2, 5⟩], [⟨4, 9⟩]] 2 0) (fun k => ?_) (Ev.bind a1 (f := fun k t => q8z.l1 k [] [[⟨2, 5⟩], [⟨4, 9⟩]] 2 0 t (t.length : Int) 0) ?_)
    · kernel_rfl
    · refine Ev.step (f := fun k => q8z.l1 k [2, 6] [[⟨2, 5⟩], [⟨4, 9⟩]] 2 0 [⟨2, 5⟩] 1 1) (fun k => by kernel_rfl) ?_
      refine Ev.step (f := fun k => q8z.l0 k [2, 6] [[⟨2, 5⟩], [⟨4, 9⟩]] 2 1) (fun k => by kernel_rfl) ?_
      refine Ev.step (fun k => ?_) (Ev.bind a2 (f := fun k t => q8z.l1 k [2, 6] [[⟨2, 5⟩], [⟨4, 9⟩]] 2 1 t (t.length : Int) 0) ?_)
      · kernel_rfl
      · refine Ev.step (f := fun k => q8z.l1 k [2, 6, 4, 10] [[⟨2, 5⟩], [⟨4, 9⟩]] 2 1 [⟨4, 9⟩] 1 1) (fun k => by kernel_rfl) ?_
        refine Ev.step (f := fun k => q8z.l0 k [2, 6, 4, 10] [[⟨2, 5⟩], [⟨4, 9⟩]] 2 2) (fun k => by kernel_rfl) ?_
        refine ⟨40, fun k hk => ?_⟩
        obtain ⟨m, rfl⟩ : ∃ m, k = m + 40 := ⟨k - 40, by omega⟩
        exact atoms_tail m
  refine Ev.bind h1 (f := fun k t => (q2z.f k t [⟨1, 7⟩]).bind fun t171 => (if t171 = true then ((q4z.f k [⟨0, 4⟩]).bind fun t175 => ((q2z.f k t175 [⟨5, 4294967295⟩]).bind fun t181 => (if t181 = true then ((q8z.f k [[⟨2, 5⟩], [⟨4, 9⟩]]).bind fun t191 => (some ((t191.length : Int) == 5))) else (some false)))) else (some false))) ?_
  refine Ev.bind (same_ev _ (by decide)) (f := fun k t171 => if t171 = true then ((q4z.f k [⟨0, 4⟩]).bind fun t175 => ((q2z.f k t175 [⟨5, 4294967295⟩]).bind fun t181 => (if t181 = true then ((q8z.f k [[⟨2, 5⟩], [⟨4, 9⟩]]).bind fun t191 => (some ((t191.length : Int) == 5))) else (some false)))) else (some false)) ?_
  simp only [if_true]
  refine Ev.bind n1 (f := fun k t => (q2z.f k t [⟨5, 4294967295⟩]).bind fun t181 => (if t181 = true then ((q8z.f k [[⟨2, 5⟩], [⟨4, 9⟩]]).bind fun t191 => (some ((t191.length : Int) == 5))) else (some false))) ?_
  refine Ev.bind (same_ev _ (by decide)) (f := fun k t => if t = true then ((q8z.f k [[⟨2, 5⟩], [⟨4, 9⟩]]).bind fun t191 => (some ((t191.length : Int) == 5))) else (some false)) ?_
  simp only [if_true]
  exact Ev.bind at_ (f := fun _ t => some ((t.length : Int) == 5)) (Ev.congr (fun _ => by kernel_rfl) (Ev.now true))
end Go.Proofs.Ytconaifcjnpabaa.P

namespace Go.Proofs.Ytconaifcjnpabaa.P
open Go.RowKit Go.Proofs.YtconaifcjnpabaaW.PrintWords Go.Proofs.YtconaifcjnpabaaW.PrintMore
set_option linter.unusedVariables false
theorem rng_of_good (l : List S33) (h : ∀ z_ ∈ l, good33 z_) : Rng l := fun s hs => by
  obtain ⟨h0, h1⟩ := h s hs
  simp [Lit.wf, IntKind.min, IntKind.max, IntKind.signed, IntKind.bits] at h0 h1
  omega
theorem great_f (l : List S33) : q10z.f l = some (decide ((l.length : Int) > 100)) := rfl
theorem in_rng (l : List S33) (hr : Rng l) (n : Int) : InS l n = true → 0 ≤ n ∧ n ≤ 4294967295 := fun h => by
  obtain ⟨s, hs, s0, s1⟩ := (InS_iff _ _).1 h
  have := hr s hs
  omega
theorem laws_j0 (l0 l1 : List S33) (p : Int) (hr0 : Rng l0) (hr1 : Rng l1) (n0 : l0.length ≤ 100) (n1 : l1.length ≤ 100) : ∃ K, ∀ k, K ≤ k → q11z.j0 (k + 2) l0 l1 p false = some true := by
  have h1 := in_rng l0 hr0
  have h2 := in_rng l1 hr1
  obtain ⟨x, ⟨K1, e1⟩, x1, x2, x3⟩ := norm_ev l0 (by omega) hr0
  obtain ⟨y, ⟨K2, e2⟩, y1, y2, y3⟩ := norm_ev l1 (by omega) hr1
  obtain ⟨na, ⟨K3, e3⟩, a1, a2, a3⟩ := not_ev l0 (by omega) hr0
  obtain ⟨nb, ⟨K4, e4⟩, b1, b2, b3⟩ := not_ev l1 (by omega) hr1
  obtain ⟨nna, ⟨K5, e5⟩, c1, c2, c3⟩ := not_ev na (by omega) (NF_Rng a1)
  obtain ⟨m, ⟨K6, e6⟩, m1, m2, m3⟩ := meet_ev l0 l1 (by omega) (by omega) hr0 hr1
  obtain ⟨u, ⟨K7, e7⟩, u1, u2, u3⟩ := union_ev na nb (by omega) (by omega) (NF_Rng a1) (NF_Rng b1)
  obtain ⟨nu, ⟨K8, e8⟩, d1, d2, d3⟩ := not_ev u (by omega) (NF_Rng u1)
  obtain ⟨z, ⟨K9, e9⟩, z1, z2, z3⟩ := meet_ev l0 na (by omega) (by omega) hr0 (NF_Rng a1)
  obtain ⟨v, ⟨K10, e10⟩, v1, v2, v3⟩ := union_ev l0 na (by omega) (by omega) hr0 (NF_Rng a1)
  obtain ⟨w, ⟨K11, e11⟩, w1, w2, w3⟩ := union_ev x y (by omega) (by omega) (NF_Rng x1) (NF_Rng y1)
  obtain ⟨w', ⟨K12, e12⟩, w1', w2', w3'⟩ := union_ev l1 l0 (by omega) (by omega) hr1 hr0
  obtain ⟨nw, ⟨K13, e13⟩, q1, q2, q3⟩ := norm_ev w (by omega) (NF_Rng w1)
  have i1 : nna = x := nf_ext c1 x1 (fun n => by
    rw [c2, a2, x2]
    cases hp : InS l0 n with
    | false => simp
    | true => simp [h1 n hp])
  have i2 : m = nu := nf_ext m1 d1 (fun n => by
    rw [m2, d2, u2, a2, b2]
    cases hp : InS l0 n <;> cases hq : InS l1 n <;> simp
    · exact h1 n hp)
  have i3 : z = [] := nf_ext z1 NF_nil (fun n => by
    rw [z2, a2]
    cases hp : InS l0 n <;> simp [InS])
  have i4 : v = [⟨0, 4294967295⟩] := nf_ext v1 (nf1 _ _ (by decide) (by decide) (by decide)) (fun n => by
    rw [v2, a2]
    cases hp : InS l0 n with
    | false => simp [InS, inSpan]
    | true => simp [InS, inSpan, h1 n hp])
  have i5 : w = w' := nf_ext w1 w1' (fun n => by rw [w2, w2', x2, y2, Bool.or_comm])
  have i6 : nw = w := nf_ext q1 w1 (fun n => q2 n)
  subst i1 i2 i3 i5 i6
  subst i4
  obtain ⟨K14, e14⟩ := same_ev nna (by omega)
  obtain ⟨K15, e15⟩ := same_ev m (by omega)
  obtain ⟨K16, e16⟩ := same_ev nw (by omega)
  refine ⟨K1 + K2 + K3 + K4 + K5 + K6 + K7 + K8 + K9 + K10 + K11 + K12 + K13 + K14 + K15 + K16, fun k hk => ?_⟩
  have hi : InS nw p = (InS l0 p || InS l1 p) := by rw [w2, x2, y2]
  have r0 : rd_T33 [(⟨0, 4294967295⟩ : S33)] 0 = ⟨0, 4294967295⟩ := rfl
  have hlast : q11z.j1 (k + 1) l0 l1 p nna y false = some true := by
    simp only [q11z.j1, Bool.false_eq_true, if_false, e3 k (by omega), e10 k (by omega), e11 k (by omega), Option.bind_some, List.length_singleton, r0, e12 k (by omega), e16 k (by omega), if_true, in_f nw p (by omega), in_f l0 p (by omega), in_f l1 p (by omega), e13 k (by omega), hi]
    cases InS l0 p <;> simp
  simp only [q11z.j0, Bool.false_eq_true, if_false, e1 (k + 1) (by omega), e2 (k + 1) (by omega), e3 (k + 1) (by omega), e5 (k + 1) (by omega), e14 (k + 1) (by omega), if_true, e6 (k + 1) (by omega), e4 (k + 1) (by omega), e7 (k + 1) (by omega), e8 (k + 1) (by omega), e15 (k + 1) (by omega), e9 (k + 1) (by omega), Option.bind_some, List.length_nil]
  exact hlast
theorem pure_SpanLaws (l0 : List (S33)) (l1 : List (S33)) (a2 : Int) (h0 : (∀ z_ ∈ l0, good33 z_)) (h1 : (∀ z_ ∈ l1, good33 z_)) (h2 : (Lit.int .u32 a2).wf = true) : ∃ k, q11z.f k l0 l1 a2 = some true := by
  have hr0 := rng_of_good l0 h0
  have hr1 := rng_of_good l1 h1
  obtain ⟨K1, e1⟩ := alive_ev
  have ht : ∀ k, q11z.j0 (k + 1) l0 l1 a2 true = some true := fun k => by simp only [q11z.j0, if_true]
  by_cases hg0 : (l0.length : Int) > 100
  · refine ⟨K1 + 1, ?_⟩
    simp only [q11z.f, e1 (K1 + 1) (by omega), great_f, Option.bind_some, decide_eq_true hg0, if_true, ht]
  · by_cases hg1 : (l1.length : Int) > 100
    · refine ⟨K1 + 1, ?_⟩
      simp only [q11z.f, e1 (K1 + 1) (by omega), great_f, Option.bind_some, decide_eq_false hg0, decide_eq_true hg1, if_true, Bool.false_eq_true, if_false, ht]
    · obtain ⟨K2, e2⟩ := laws_j0 l0 l1 a2 hr0 hr1 (by omega) (by omega)
      refine ⟨K1 + K2 + 2, ?_⟩
      simp only [q11z.f, e1 (K1 + K2 + 2) (by omega), great_f, Option.bind_some, decide_eq_false hg0, decide_eq_false hg1, if_true, Bool.false_eq_true, if_false, e2 (K1 + K2) (by omega)]
end Go.Proofs.Ytconaifcjnpabaa.P

namespace Go.Proofs.Ytconaifcjnpabaa.spanLaws
open Go.ChangeShapes Go.WideShapes Go.ChangeAt Go.RowKit
open Go.ChangeMaps (open_string shut_string)
open Go.Proofs.YtconaifcjnpabaaW.PrintWords Go.Proofs.YtconaifcjnpabaaW.PrintLast Go.Proofs.YtconaifcjnpabaaW.PrintMore Go.Proofs.Ytconaifcjnpabaa.P
set_option linter.unusedVariables false
set_option linter.unusedSimpArgs false
theorem own : ownKnob Try.prog.godebug = none := by kernel_rfl
theorem laidOut : laidOutB Try.prog = true := by kernel_rfl
set_option maxRecDepth 100000 in
theorem lifted (os : Os) (started : os.Started) (H : Type) (enc : TypeId × Value → H) :
    ReturnsInHanded {} Try.checked os 7 .any (Rows.spanLawsSpec.pre6 enc Try.prog Try.f7 Rows.spanLawsRow.domain false) (Rows.spanLawsSpec.post enc Try.prog Try.f7 false true false false) := by
  refine returnsInHanded_of_change_sized (C := Try.checked) own started (by kernel_rfl) Try.func7
    (ChangeSpec.witness6 (enc := enc) (C := Try.checked) false ⟨#[], #[.slice none 0 0, .slice none 0 0, .int .u32 0], []⟩ 8 (by kernel_rfl) (by kernel_rfl) (by kernel_rfl) (by kernel_rfl)) ?_
  intro W base args ds gs before hval0 hW hcnd hsz0 _
  have hval : ∀ (j : Nat) t v, Try.f7.params[j]? = some t → args[j]? = some v → Value.okWide Try.prog W .any base t v := hval0
  have hW' := hW
  obtain ⟨p, q, hA0, hV, rfl, hfz, hnd⟩ := hW
  have hA : DataW.TrodAll enc Try.prog W 0 (fun _ => true) true Try.f7.params.toList args.toList ds p := hA0
  rw [Try.params7] at hA hval
  obtain ⟨v0, vs0, d0, ds0, p0, q0, hargs, rfl, rfl, h0, r0⟩ := trodAll_cons hA
  obtain ⟨v1, vs1, d1, ds1, p1, q1, rfl, rfl, rfl, h1, r1⟩ := trodAll_cons r0
  obtain ⟨v2, vs2, d2, ds2, p2, q2, rfl, rfl, rfl, h2, r2⟩ := trodAll_cons r1
  obtain ⟨rfl, rfl, rfl⟩ := trodAll_nil r2
  obtain rfl : args = #[v0, v1, v2] := by cases args; simp_all
  obtain ⟨rfl, rfl⟩ := trodVars_none hV
  obtain ⟨a0, len0, cap0, rfl⟩ := okWide_slice Try.underlying24 (hval 0 24 v0 rfl rfl)
  have k0 := h0
  have lt0 : ∀ x ∈ p0, x.block < W.heap.size := by obtain ⟨m, hm⟩ := k0; exact DataW.trod_lt m _ _ _ hm
  obtain ⟨l0, hK0, hg0⟩ : ∃ l_ : List (S33), (Kd.slice 33 k33).K W l_ [.slice a0 len0 cap0] ∧ (∀ z_ ∈ l_, good33 z_) := by obtain ⟨fuel, hf⟩ := h0; exact (opens_slice Try.underlying24 (by kernel_rfl) opens_T33) _ _ _ (by simpa [Value.cells] using hf)
  obtain ⟨A0_, c0_, hc0, hle0, hC0⟩ := hK0
  simp only [List.cons.injEq, Value.slice.injEq, and_true] at hc0
  obtain ⟨rfl, rfl, rfl⟩ := hc0
  obtain ⟨a1, len1, cap1, rfl⟩ := okWide_slice Try.underlying24 (hval 1 24 v1 rfl rfl)
  have k1 := h1
  have lt1 : ∀ x ∈ p1, x.block < W.heap.size := by obtain ⟨m, hm⟩ := k1; exact DataW.trod_lt m _ _ _ hm
  obtain ⟨l1, hK1, hg1⟩ : ∃ l_ : List (S33), (Kd.slice 33 k33).K W l_ [.slice a1 len1 cap1] ∧ (∀ z_ ∈ l_, good33 z_) := by obtain ⟨fuel, hf⟩ := h1; exact (opens_slice Try.underlying24 (by kernel_rfl) opens_T33) _ _ _ (by simpa [Value.cells] using hf)
  obtain ⟨A1_, c1_, hc1, hle1, hC1⟩ := hK1
  simp only [List.cons.injEq, Value.slice.injEq, and_true] at hc1
  obtain ⟨rfl, rfl, rfl⟩ := hc1
  obtain ⟨a2, rfl, rfl, rfl, w2⟩ := open_int Try.underlying29 (hval 2 29 v2 rfl rfl) h2
  clear hA0 hval0 hsz0
  obtain ⟨k_, hk_⟩ := pure_SpanLaws l0 l1 a2 hg0 hg1 w2
  refine (q11z.calls k_ a0 cap0 l0 a1 cap1 l1 a2 true W hC0 hle0 hC1 hle1 hk_).mono fun e W' ⟨he, bel⟩ => ?_
  subst he
  exact ⟨_, rfl, _, _, _, [], _, [], hW', trodAll_mk1 (shut_bool Try.underlying4 _), (trodAll_cons_mk (Below.trod laidOut (by kernel_rfl) (of_decide_eq_true (by kernel_rfl)) k0 bel lt0) (trodAll_cons_mk (Below.trod laidOut (by kernel_rfl) (of_decide_eq_true (by kernel_rfl)) k1 bel lt1) (trodAll_cons_mk (shut_int Try.underlying29 w2) trodAll_mk0))), rfl, bel.frame _, fun h => by cases h⟩
theorem over : Rows.spanLawsRow.holds Try.pinned (OpenSpec.ofChange Rows.spanLawsSpec) :=
  OpenClaim.holds_of_wide 7 Try.f7 rfl rfl rfl rfl rfl rfl rfl ⟨rfl, rfl, rfl, rfl, rfl⟩ rfl rfl rfl rfl rfl (by kernel_rfl) Try.func7 (by kernel_rfl)
    (of_decide_eq_true (by kernel_rfl)) (by unfold Func.isWrapper; first | (rw [if_pos (by decide +kernel)]; kernel_rfl) | (rw [if_neg (by decide +kernel)]; exact ⟨rfl, rfl⟩))
    (fun os started H enc _ => lifted os started H enc)
theorem proved : Rows.SpanLawsSaid := over
end Go.Proofs.Ytconaifcjnpabaa.spanLaws
namespace Go.Proofs.Ytconaifcjnpabaa
/-- The row, under a short name, for the claim. -/
theorem spanLaws_holds : Rows.SpanLawsSaid := spanLaws.proved
#print axioms spanLaws_holds
end Go.Proofs.Ytconaifcjnpabaa
