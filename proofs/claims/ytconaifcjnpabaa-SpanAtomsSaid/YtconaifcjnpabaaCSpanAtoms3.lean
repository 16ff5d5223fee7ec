/-
  Proved: for every input the law SpanAtoms answers true, and each argument reads behind the call as it read before.
  Conditions: none beside the row's own.
-/
import Derived.Test.YtconaifcjnpabaaRows
import Derived.WalkKit
import Derived.ProofKit
import Derived.OpenShut
import Derived.ShutString
import Derived.ChangeOld
import Derived.Below
import Derived.SizedLaws
import Derived.Test.YtconaifcjnpabaaCSpanAtoms0
import Derived.Test.YtconaifcjnpabaaCSpanAtoms1
import Derived.Test.YtconaifcjnpabaaCSpanAtoms2
namespace Go.Proofs.Ytconaifcjnpabaa.P
open Go.RowKit Go.Proofs.YtconaifcjnpabaaW.PrintWords Go.Proofs.YtconaifcjnpabaaW.PrintLast Go.Proofs.YtconaifcjnpabaaW.PrintMore
attribute [local go_sem] max2_int min2_int max_two min_two max_three min_three max_four min_four
set_option linter.unusedVariables false
set_option linter.unusedSimpArgs false

/-! ### dragomanref01_Copy: function 13 -/
def q13z.f (l0 : List (S33)) : Option ((List (S33))) := (some (([] : List (S33)) : List (S33))).bind fun y1 => (if y1.length + l0.length < 17592186044416 then (some (y1 ++ l0)) else (none))
set_option maxHeartbeats 8000000 in
set_option maxRecDepth 100000 in
theorem q13z.calls (A0 : Option Addr) (c0 : Nat) (l0 : List (S33)) (r : List (S33)) (w : World) (hr0 : Kd.C k33 w A0 l0.length l0) (hc0 : l0.length ≤ c0) (h : q13z.f l0 = some r) :
  Calls Try.prog 13 #[.slice A0 l0.length c0] w fun e w' => ∃ v0_ : Value, e = .returned (v0_) ∧ Kd.R k33 33 w' w.heap.size (fun _ => True) v0_ r ∧ Below w.heap.size w w' := by
 have HR0 := Aside0.mk hr0
 have HC0 := Aside0.mk hc0
 clear hr0 hc0
 have HB := Aside0.mk (Below.refl w.heap.size w)
 have H : ((some (([] : List (S33)) : List (S33))).bind fun y1 => (if y1.length + l0.length < 17592186044416 then (some (y1 ++ l0)) else (none))) = some r := h
 clear h
 obtain ⟨y1, hy1⟩ : ∃ y_ : List (S33), y_ = (([] : List (S33))) := ⟨_, rfl⟩
 replace H : (if y1.length + l0.length < 17592186044416 then (some (y1 ++ l0)) else (none)) = some r := by first | (rw [hy1]; with_reducible exact H) | (have H2_ := (Option.bind_some _ _).symm.trans H; rw [hy1]; with_reducible exact H2_) | (have H2_ := (Option.bind_some _ _).symm.trans H; with_reducible exact H2_) | with_reducible exact H | (rw [hy1]; exact H) | exact H
 have Ny1 := Aside0.mk hy1
 clear hy1
 by_cases c2 : y1.length + l0.length < 17592186044416
 ·
  rw [if_pos c2] at H
  have LMc2 := Aside0.mk c2
  clear c2
  obtain ⟨y4, hy4⟩ : ∃ y_ : List (S33), y_ = (y1 ++ l0) := ⟨_, rfl⟩
  replace H : (some y4) = some r := by first | (rw [hy4]; with_reducible exact H) | (have H2_ := (Option.bind_some _ _).symm.trans H; rw [hy4]; with_reducible exact H2_) | (have H2_ := (Option.bind_some _ _).symm.trans H; with_reducible exact H2_) | with_reducible exact H | (rw [hy4]; exact H) | exact H
  have Ny4 := Aside0.mk hy4
  clear hy4
  obtain rfl := Option.some.inj H
  go_enter Try.func13, Try.ntmps13
  go_wp2_with (first | ((with_reducible refine gate_dst (N := 3) rfl ?_); refine Kd.R_lit k33 _ 33 ?hg (N := 3) ?hd (xs := ([] : List (S33))) (inner := []) (ok := fun _ => True) (okp := fun _ => True) ?hr ?hp (fun _ hk => hk) trivial (Below.refl _ _) (Nat.le_refl _) (by simp) ?_; (case hd => rfl); (case hg => rfl); (case hr => first | (go_simp; done) | (go_simp; rfl)); (case hp => exact (Reps.none _ _)); intro v2 w3 ho4 hb hg_ hnew_; clear hg_ hnew_; (first | rw [← Ny1.out] at ho4 | (simp only [Int.reduceToNat] at ho4; rw [← Ny1.out] at ho4)); have n0_ := Aside0.mk (Kd.R_lower ho4 (below_size (by repeat (first | (with_reducible first | exact HB.out | apply below_alloc | apply pw_below_drewN | apply below_drew1) | exact HB.out)))); have n1_ := Aside0.mk (below_step (by repeat (first | (with_reducible first | exact HB.out | apply below_alloc | apply pw_below_drewN | apply below_drew1) | exact HB.out)) hb); clear HB; have HO3 := n0_; have HB := n1_; clear n0_ n1_; clear hb ho4) | ((with_reducible refine gate_builtin (b := .append) (xs := #[.tmp 3, .tmp 4]) rfl ?_); at_builtin; refine Kd.R_append_rows k33 (w0 := w) w.heap.size rfl (.tmp 3) (.tmp 4) 24 33 (.agg #[(.int .u32 0), (.int .u32 0)]) 8 rfl Try.underlying24 info33 rfl (by decide) (by omega) v2 y1 l0 _ _ _ (fun _ => True) (fun _ => False) rfl rfl ?aO ?aR (fun _ _ h => h) (fun _ h => h.elim) ?aF ?aB ?aS ?aL ?_; (case aR => repeat (first | exact (Kd.C_below HR0.out HB.out) | (with_reducible refine Kd.C_alloc ?_ _) | (with_reducible refine Kd.C_drewN ?_ _) | (with_reducible refine Kd.C_drew ?_))); (case aB => exact (by repeat (first | (with_reducible first | exact HB.out | apply below_alloc | apply pw_below_drewN | apply below_drew1) | exact HB.out))); (case aF => exact (fun _ _ => trivial)); (case aO => exact (by (with_reducible repeat (first | apply Kd.R_alloc | apply Kd.R_drewN | apply Kd.R_drew)); exact HO3.out)); (case aS => exact (below_size (by repeat (first | (with_reducible first | exact HB.out | apply below_alloc | apply pw_below_drewN | apply below_drew1) | exact HB.out)))); (case aL => have := LMc2.out; omega); intro v5 w5 ho hb hg hat; rw [← Ny4.out] at ho; have n0_ := Aside0.mk (hb); have n1_ := Aside0.mk (ho); clear HB; clear HO3; have HB := n0_; have HO6 := n1_; clear n0_ n1_; clear ho hb hg hat))
  go_ret
  exact ⟨_, by first | rfl | (simp [errW_none, errW_some] <;> rfl) | (simp [*, errW_none, errW_some] <;> rfl), by (with_reducible repeat (first | apply Kd.R_alloc | apply Kd.R_drewN | apply Kd.R_drew)); exact HO6.out, by repeat (first | (with_reducible first | exact HB.out | apply below_alloc | apply pw_below_drewN | apply below_drew1) | exact HB.out)⟩
 ·
  rw [if_neg c2] at H
  exact absurd H (by simp)

end Go.Proofs.Ytconaifcjnpabaa.P

namespace Go.Proofs.Ytconaifcjnpabaa.P
open Go.RowKit Go.Proofs.YtconaifcjnpabaaW.PrintWords Go.Proofs.YtconaifcjnpabaaW.PrintMore
set_option linter.unusedVariables false
set_option linter.unusedSimpArgs false
theorem wr (i : Int) (h0 : -9223372036854775808 ≤ i) (h1 : i ≤ 9223372036854775807) : wrap64 i = i := by unfold wrap64; omega
theorem wr1 (i : Nat) (h : i < 1000000000) : wrap64 ((i : Int) + 1) = ((i + 1 : Nat) : Int) := by rw [wr _ (by omega) (by omega)]; omega
theorem rdS (l : List S33) (i : Nat) (h : i < l.length) : rd_T33 l (i : Int) = l[i] := by
  unfold rd_T33
  rw [Int.toNat_natCast, List.getD_eq_getElem?_getD, List.getElem?_eq_getElem h]
  rfl
theorem rdI (l : List Int) (i : Nat) (h : i < l.length) : rd l (i : Int) = l[i] := by
  unfold rd
  rw [Int.toNat_natCast, List.getD_eq_getElem?_getD, List.getElem?_eq_getElem h]
  rfl
theorem S33_eta (s : S33) : (⟨s.f0, s.f1⟩ : S33) = s := rfl
def okB (s : S33) : Bool := decide (s.f0 ≤ s.f1)

theorem norm_l1 (t : List S33) (ht : t.length ≤ 1000000) (htr : Rng t) : ∀ (d i : Nat) (out : List S33), i + d = t.length → out.length + d ≤ 1000000 → (∀ s ∈ out, 0 ≤ s.f1 ∧ s.f1 ≤ 4294967295) →
    Ev (fun k => q2z.l1 k out t (t.length : Int) (i : Int)) (mergeAll out (t.drop i))
  | 0, i, out, hi, _, _ => by
    refine Ev.step (f := fun _ => some out) (fun k => ?_) ?_
    · simp only [q2z.l1]
      rw [if_neg (by omega)]
    · rw [List.drop_eq_nil_of_le (by omega)]
      exact Ev.now out
  | d + 1, i, out, hi, ho, hr => by
    have hil : i < t.length := by omega
    rw [List.drop_eq_getElem_cons hil]
    have hs := htr t[i] (List.getElem_mem hil)
    generalize hq : t[i] = s at hs
    have hrd : rd_T33 t (i : Int) = s := by rw [rdS t i hil, hq]
    have hlen : ∀ o : List S33, o.length ≤ out.length + 1 → o.length + d ≤ 1000000 := fun o h => by omega
    rw [mergeAll]
    rcases List.eq_nil_or_concat out with rfl | ⟨p, x, rfl⟩
    · rw [mergeStep_nil]
      refine Ev.step (fun k => ?_) (norm_l1 t ht htr d (i + 1) [s] (by omega) (by simp; omega) (fun z hz => by rw [List.mem_singleton.1 hz]; omega))
      simp only [q2z.l1]
      rw [if_pos (by omega), if_pos (by omega), if_pos (by omega), if_neg (by simp), if_pos (by simp), hrd, wr1 i (by omega)]
      rfl
    · simp only [List.concat_eq_append] at *
      have hx := hr x (by simp)
      have hpl : (p ++ [x]).length = p.length + 1 := by simp
      have hl1 : wrap64 (((p ++ [x]).length : Int) - 1) = (p.length : Int) := by
        rw [List.length_append, List.length_singleton, wr _ (by omega) (by omega)]; omega
      have hrx : rd_T33 (p ++ [x]) (p.length : Int) = x := by rw [rdS _ _ (by simp)]; simp
      have hset : ∀ y : S33, (p ++ [x]).set (p.length : Int).toNat y = p ++ [y] := fun y => by rw [Int.toNat_natCast]; simp
      have hlp : ((p ++ [x]).length : Int) > 0 := by rw [List.length_append, List.length_singleton]; omega
      have hlq : (p.length : Int) < ((p ++ [x]).length : Int) := by rw [List.length_append, List.length_singleton]; omega
      have hmx : 0 ≤ mx x.f1 s.f1 ∧ mx x.f1 s.f1 ≤ 4294967295 := by unfold mx; split <;> omega
      rw [mergeStep_snoc]
      by_cases hM : x.f1 = 4294967295
      · rw [if_pos (.inl hM)]
        refine Ev.step (fun k => ?_) (norm_l1 t ht htr d (i + 1) (p ++ [⟨x.f0, mx x.f1 s.f1⟩]) (by omega) (hlen _ (by simp)) (fun z hz => ?_))
        · simp only [q2z.l1]
          rw [if_pos (by omega), if_pos (by omega), if_pos (by omega), if_pos hlp, hl1, if_pos (by omega), if_pos hlq, hrx, if_pos hM, hset, hrd, wr1 i (by omega)]
        · rcases List.mem_append.1 hz with hz | hz
          · exact hr z (List.mem_append_left _ hz)
          · rw [List.mem_singleton.1 hz]; exact hmx
      · have hmod : (x.f1 + 1) % 4294967296 = x.f1 + 1 := by omega
        by_cases hc : s.f0 ≤ x.f1 + 1
        · rw [if_pos (.inr hc)]
          refine Ev.step (fun k => ?_) (norm_l1 t ht htr d (i + 1) (p ++ [⟨x.f0, mx x.f1 s.f1⟩]) (by omega) (hlen _ (by simp)) (fun z hz => ?_))
          · simp only [q2z.l1]
            rw [if_pos (by omega), if_pos (by omega), if_pos (by omega), if_pos hlp, hl1, if_pos (by omega), if_pos hlq, hrx, if_neg hM, hmod, hrd, if_pos hc, hset, wr1 i (by omega)]
          · rcases List.mem_append.1 hz with hz | hz
            · exact hr z (List.mem_append_left _ hz)
            · rw [List.mem_singleton.1 hz]; exact hmx
        · rw [if_neg (by rw [not_or]; exact ⟨hM, hc⟩)]
          refine Ev.step (fun k => ?_) (norm_l1 t ht htr d (i + 1) ((p ++ [x]) ++ [s]) (by omega) (hlen _ (by simp)) (fun z hz => ?_))
          · simp only [q2z.l1]
            rw [if_pos (by omega), if_pos (by omega), if_pos (by omega), if_pos hlp, hl1, if_pos (by omega), if_pos hlq, hrx, if_neg hM, hmod, hrd, if_neg hc, if_pos (by have := hlen (p ++ [x]) (by omega); omega), wr1 i (by omega)]
          · rcases List.mem_append.1 hz with hz | hz
            · exact hr z hz
            · rw [List.mem_singleton.1 hz]; omega

theorem norm_l0 (l : List S33) (hl : l.length ≤ 1000000) (r : List S33) : ∀ (d i : Nat) (acc : List S33), i + d = l.length → acc.length ≤ i →
    Ev (fun k => (SortFunc_Span.f (acc ++ (l.drop i).filter okB)).bind fun t => q2z.l1 k [] t ((acc ++ (l.drop i).filter okB).length : Int) 0) r →
    Ev (fun k => q2z.l0 k acc l (l.length : Int) (i : Int)) r
  | 0, i, acc, hi, _, h => by
    refine Ev.step (fun k => ?_) h
    simp only [q2z.l0]
    rw [if_neg (by omega), List.drop_eq_nil_of_le (by omega), List.filter_nil, List.append_nil]
  | d + 1, i, acc, hi, ha, h => by
    have hil : i < l.length := by omega
    rw [List.drop_eq_getElem_cons hil] at h
    have hrd : rd_T33 l (i : Int) = l[i] := rdS l i hil
    by_cases hc : l[i].f0 ≤ l[i].f1
    · rw [List.filter_cons_of_pos (by simpa [okB] using hc)] at h
      refine Ev.step (fun k => ?_) (norm_l0 l hl r d (i + 1) (acc ++ [l[i]]) (by omega) (by simp; omega) (by rw [List.append_assoc, List.singleton_append]; exact h))
      simp only [q2z.l0]
      rw [if_pos (by omega), if_pos (by omega), if_pos (by omega), hrd, if_pos hc, if_pos (by omega), wr1 i (by omega)]
    · rw [List.filter_cons_of_neg (by simpa [okB] using hc)] at h
      refine Ev.step (fun k => ?_) (norm_l0 l hl r d (i + 1) acc (by omega) (by omega) h)
      simp only [q2z.l0]
      rw [if_pos (by omega), if_pos (by omega), if_pos (by omega), hrd, if_neg hc, wr1 i (by omega)]

theorem InS_perm {a b : List S33} (h : a.Perm b) (n : Int) : InS a n = InS b n := by
  rw [Bool.eq_iff_iff, InS_iff, InS_iff]
  exact ⟨fun ⟨s, hs, q⟩ => ⟨s, h.mem_iff.1 hs, q⟩, fun ⟨s, hs, q⟩ => ⟨s, h.mem_iff.2 hs, q⟩⟩
theorem InS_filter (l : List S33) (n : Int) : InS (l.filter okB) n = InS l n := by
  rw [Bool.eq_iff_iff, InS_iff, InS_iff]
  refine ⟨fun ⟨s, hs, q⟩ => ⟨s, (List.mem_filter.1 hs).1, q⟩, fun ⟨s, hs, q⟩ => ⟨s, List.mem_filter.2 ⟨hs, by simp [okB]; omega⟩, q⟩⟩
theorem mergeStep_length (out : List S33) (s : S33) : (mergeStep out s).length ≤ out.length + 1 := by
  rcases List.eq_nil_or_concat out with rfl | ⟨p, x, rfl⟩
  · simp [mergeStep]
  · rw [List.concat_eq_append, mergeStep_snoc]
    split <;> simp
theorem mergeAll_length : ∀ (t out : List S33), (mergeAll out t).length ≤ out.length + t.length
  | [], out => by simp [mergeAll]
  | s :: r, out => by
    have h1 := mergeAll_length r (mergeStep out s)
    have h2 := mergeStep_length out s
    rw [mergeAll, List.length_cons]
    omega

/-- span.Norm: the set's one form. -/
theorem norm_ev (l : List S33) (hl : l.length ≤ 1000000) (hr : Rng l) : ∃ r, Ev (fun k => q2z.f k l) r ∧ NF r ∧ (∀ n, InS r n = InS l n) ∧ r.length ≤ l.length := by
  have hfl : (l.filter okB).length ≤ l.length := List.length_filter_le _ _
  obtain ⟨t, ht, hp, hs⟩ := sortFunc_Span_sorts (l.filter okB) (by omega)
  have htl : t.length = (l.filter okB).length := hp.length_eq
  have hmem : ∀ s ∈ t, s ∈ l ∧ s.f0 ≤ s.f1 := fun s hs => by
    have := List.mem_filter.1 (hp.mem_iff.1 hs)
    exact ⟨this.1, by simpa [okB] using this.2⟩
  have hok : ∀ s ∈ t, Ok s := fun s hs => by
    have h1 := hmem s hs
    have h2 := hr s h1.1
    unfold Ok
    omega
  obtain ⟨h1, h2⟩ := mergeAll_nf t [] NF_nil hok hs (fun x hx => (List.not_mem_nil hx).elim)
  refine ⟨mergeAll [] t, ?_, h1, fun n => ?_, ?_⟩
  · have h3 := norm_l1 t (by omega) (fun s hs => hr s (hmem s hs).1) t.length 0 [] (by omega) (by simp; omega) (fun s hs => (List.not_mem_nil hs).elim)
    refine Ev.congr (fun k => rfl) (norm_l0 l hl _ l.length 0 [] (by omega) (Nat.zero_le _) ?_)
    simp only [List.nil_append, List.drop_zero, ht, Option.bind_some]
    rw [← htl]
    exact h3
  · rw [h2, InS_nil, Bool.false_or, InS_perm hp, InS_filter]
  · have := mergeAll_length t []
    simp only [List.length_nil] at this
    omega

theorem not_l0 (t : List S33) (ht : t.length ≤ 1000000) (hn : NF t) : ∀ (d i : Nat) (acc : List S33) (f : Int), i + d = t.length → acc.length ≤ i → 0 ≤ f → f ≤ 4294967295 → (∀ s ∈ t.drop i, f ≤ s.f0) →
    Ev (fun k => q9z.l0 k acc f t (t.length : Int) (i : Int)) (acc ++ notL f (t.drop i))
  | 0, i, acc, f, hi, ha, _, _, _ => by
    refine Ev.step (f := fun _ => some (acc ++ [(⟨f, 4294967295⟩ : S33)])) (fun k => ?_) ?_
    · simp only [q9z.l0]
      rw [if_neg (by omega), if_pos (by omega)]
    · rw [List.drop_eq_nil_of_le (by omega)]
      exact Ev.now _
  | d + 1, i, acc, f, hi, ha, hf0, hf1, hf => by
    have hil : i < t.length := by omega
    rw [List.drop_eq_getElem_cons hil] at hf ⊢
    have hs : Ok t[i] := hn.1 _ (List.getElem_mem hil)
    have hrd : rd_T33 t (i : Int) = t[i] := rdS t i hil
    have hfi := hf t[i] List.mem_cons_self
    have hgap : ∀ s ∈ t.drop (i + 1), t[i].f1 + 1 ≤ s.f0 := fun s hs => by
      have h1 := hn.2
      rw [← List.take_append_drop i t, List.pairwise_append] at h1
      have h2 := h1.2.1
      rw [List.drop_eq_getElem_cons hil, List.pairwise_cons] at h2
      have := h2.1 s hs
      omega
    generalize t[i] = s at hs hrd hfi hgap
    unfold Ok at hs
    by_cases hg : s.f0 > f
    · have hm1 : (s.f0 - 1) % 4294967296 = s.f0 - 1 := by omega
      by_cases hM : s.f1 = 4294967295
      · simp only [notL, if_pos hg, if_pos hM, List.append_nil]
        refine Ev.step (f := fun _ => some (acc ++ [(⟨f, s.f0 - 1⟩ : S33)])) (fun k => ?_) (Ev.now _)
        simp only [q9z.l0]
        rw [if_pos (by omega), if_pos (by omega), if_pos (by omega), hrd, if_pos hg, if_pos (by omega), Option.bind_some, if_pos hM, hm1]
      · have hm2 : (s.f1 + 1) % 4294967296 = s.f1 + 1 := by omega
        simp only [notL, if_pos hg, if_neg hM]
        rw [← List.append_assoc]
        refine Ev.step (fun k => ?_) (not_l0 t ht hn d (i + 1) (acc ++ [(⟨f, s.f0 - 1⟩ : S33)]) (s.f1 + 1) (by omega) (by simp; omega) (by omega) (by omega) hgap)
        simp only [q9z.l0]
        rw [if_pos (by omega), if_pos (by omega), if_pos (by omega), hrd, if_pos hg, if_pos (by omega), Option.bind_some, if_neg hM, hm1, hm2, wr1 i (by omega)]
    · by_cases hM : s.f1 = 4294967295
      · simp only [notL, if_neg hg, if_pos hM, List.append_nil, List.nil_append]
        refine Ev.step (f := fun _ => some acc) (fun k => ?_) (Ev.now _)
        simp only [q9z.l0]
        rw [if_pos (by omega), if_pos (by omega), if_pos (by omega), hrd, if_neg hg, if_pos hM]
      · have hm2 : (s.f1 + 1) % 4294967296 = s.f1 + 1 := by omega
        simp only [notL, if_neg hg, if_neg hM, List.nil_append]
        refine Ev.step (fun k => ?_) (not_l0 t ht hn d (i + 1) acc (s.f1 + 1) (by omega) (by omega) (by omega) (by omega) hgap)
        simp only [q9z.l0]
        rw [if_pos (by omega), if_pos (by omega), if_pos (by omega), hrd, if_neg hg, if_neg hM, hm2, wr1 i (by omega)]
theorem notL_length : ∀ (l : List S33) (f : Int), (notL f l).length ≤ l.length + 1
  | [], f => by simp [notL]
  | s :: r, f => by
    have := notL_length r (s.f1 + 1)
    simp only [notL, List.length_append, List.length_cons]
    split <;> split <;> simp <;> omega
/-- span.Not: what is in none. -/
theorem not_ev (l : List S33) (hl : l.length ≤ 1000000) (hr : Rng l) : ∃ r, Ev (fun k => q9z.f k l) r ∧ NF r ∧ (∀ n, InS r n = (decide (0 ≤ n) && decide (n ≤ 4294967295) && !InS l n)) ∧ r.length ≤ l.length + 1 := by
  obtain ⟨t, h1, h2, h3, h4⟩ := norm_ev l hl hr
  obtain ⟨h5, _, h6⟩ := notL_nf t 0 (Int.le_refl _) (by decide) h2 (fun s hs => (h2.1 s hs).1)
  refine ⟨notL 0 t, ?_, h5, fun n => by rw [h6, h3], Nat.le_trans (notL_length t 0) (by omega)⟩
  refine Ev.bind h1 (f := fun k t => q9z.l0 k [] 0 t (t.length : Int) 0) ?_
  exact not_l0 t (by omega) h2 t.length 0 [] 0 (by omega) (Nat.zero_le _) (Int.le_refl _) (by decide) (fun s hs => (h2.1 s (List.drop_subset _ _ hs)).1)

theorem refIn_l0 (n : Int) (l : List S33) (hl : l.length ≤ 1000000) : ∀ (d i : Nat), i + d = l.length → Ev (fun k => q4z.l0 k n l (l.length : Int) (i : Int)) (InS (l.drop i) n)
  | 0, i, hi => by
    refine Ev.step (f := fun _ => some false) (fun k => ?_) ?_
    · simp only [q4z.l0]
      rw [if_neg (by omega)]
    · rw [List.drop_eq_nil_of_le (by omega)]
      exact Ev.now _
  | d + 1, i, hi => by
    have hil : i < l.length := by omega
    rw [List.drop_eq_getElem_cons hil, InS_cons]
    have hrd : rd_T33 l (i : Int) = l[i] := rdS l i hil
    have ih := refIn_l0 n l hl d (i + 1) (by omega)
    by_cases h1 : l[i].f0 ≤ n
    · by_cases h2 : n ≤ l[i].f1
      · have e : (inSpan n l[i] || InS (l.drop (i + 1)) n) = true := by simp [inSpan, h1, h2]
        rw [e]
        refine Ev.step (f := fun _ => some true) (fun k => ?_) (Ev.now _)
        simp only [q4z.l0]
        rw [if_pos (by omega), if_pos (by omega), if_pos (by omega), hrd, if_pos h1, if_pos h2]
      · have e : (inSpan n l[i] || InS (l.drop (i + 1)) n) = InS (l.drop (i + 1)) n := by simp [inSpan, h2]
        rw [e]
        refine Ev.step (fun k => ?_) ih
        simp only [q4z.l0]
        rw [if_pos (by omega), if_pos (by omega), if_pos (by omega), hrd, if_pos h1, if_neg h2, wr1 i (by omega)]
    · have e : (inSpan n l[i] || InS (l.drop (i + 1)) n) = InS (l.drop (i + 1)) n := by simp [inSpan, h1]
      rw [e]
      refine Ev.step (fun k => ?_) ih
      simp only [q4z.l0]
      rw [if_pos (by omega), if_pos (by omega), if_pos (by omega), hrd, if_neg h1, wr1 i (by omega)]
theorem refIn_ev (l : List S33) (n : Int) (hl : l.length ≤ 1000000) : Ev (fun k => q4z.f k l n) (InS l n) := refIn_l0 n l hl l.length 0 (by omega)
theorem in_f (l : List S33) (n : Int) (hl : l.length ≤ 1000000) : span_In.f l n = some (InS l n) := if_pos (by omega)
theorem copy_f (l : List S33) (hl : l.length ≤ 1000000) : q13z.f l = some l := by
  unfold q13z.f
  rw [Option.bind_some, if_pos (by simp; omega), List.nil_append]
theorem same_l0 (a : List S33) (hl : a.length ≤ 1000000) : ∀ (d i : Nat), i + d = a.length → Ev (fun k => q1z.l0 k a a (a.length : Int) (i : Int)) true
  | 0, i, hi => by
    refine Ev.step (f := fun _ => some true) (fun k => ?_) (Ev.now _)
    simp only [q1z.l0]
    rw [if_neg (by omega)]
  | d + 1, i, hi => by
    refine Ev.step (fun k => ?_) (same_l0 a hl d (i + 1) (by omega))
    simp only [q1z.l0]
    rw [if_pos (by omega), if_pos (by omega), if_pos (by omega), if_pos (by omega), if_neg (by simp), wr1 i (by omega)]
theorem same_ev (a : List S33) (hl : a.length ≤ 1000000) : Ev (fun k => q1z.f k a a) true := by
  refine Ev.congr (fun k => ?_) (same_l0 a hl a.length 0 (by omega))
  unfold q1z.f
  rw [if_pos rfl]
  rfl
end Go.Proofs.Ytconaifcjnpabaa.P

namespace Go.Proofs.Ytconaifcjnpabaa.P
open Go.RowKit Go.Proofs.YtconaifcjnpabaaW.PrintWords Go.Proofs.YtconaifcjnpabaaW.PrintMore
set_option linter.unusedVariables false
set_option linter.unusedSimpArgs false
theorem wr2 (i : Nat) (h : i < 1000000000) (h0 : 0 < i) : wrap64 ((i : Int) - 1) = ((i - 1 : Nat) : Int) := by rw [wr _ (by omega) (by omega)]; omega
theorem with_l1 (n : Int) (p : List Int) : ∀ (q s : List Int) (z : Int), p.length + q.length + s.length ≤ 1000000 →
    Ev (fun k => q5z.l1 k (p ++ q ++ [z] ++ s) n (p.length : Int) ((p.length + q.length : Nat) : Int)) (p ++ n :: (q ++ s)) := by
  intro q
  induction h : q.length generalizing q with
  | zero =>
    intro s z hl
    have hq : q = [] := List.length_eq_zero_iff.1 h
    subst hq
    refine Ev.step (f := fun _ => some (p ++ n :: ([] ++ s))) (fun k => ?_) (Ev.now _)
    simp only [q5z.l1]
    rw [if_neg (by omega), if_pos (by omega), if_pos (by simp; omega), Int.toNat_natCast]
    simp
  | succ m ih =>
    intro s z hl
    rcases List.eq_nil_or_concat q with rfl | ⟨q', y, rfl⟩
    · simp at h
    · rw [List.concat_eq_append] at *
      have hq' : q'.length = m := by simpa using h
      have e1 := ih q' hq' (y :: s) y (by simp only [List.length_cons]; omega)
      refine Ev.step (fun k => ?_) (r := p ++ n :: (q' ++ [y] ++ s)) (by
        have : p ++ n :: (q' ++ y :: s) = p ++ n :: (q' ++ [y] ++ s) := by simp
        rw [← this]
        exact e1)
      simp only [q5z.l1]
      have hw : wrap64 (((p.length + (m + 1) : Nat) : Int) - 1) = ((p.length + m : Nat) : Int) := by rw [wr _ (by omega) (by omega)]; omega
      have hr : rd (p ++ (q' ++ [y]) ++ [z] ++ s) ((p.length + m : Nat) : Int) = y := by
        rw [rdI _ _ (by simp; omega)]
        simp [List.getElem_append, hq']
      rw [if_pos (by omega), hw, if_pos (by omega), if_pos (by simp; omega), if_pos (by omega), if_pos (by simp; omega), hr, Int.toNat_natCast]
      congr 1
      have : p ++ (q' ++ [y]) ++ [z] ++ s = (p ++ q' ++ [y]) ++ (z :: s) := by simp
      rw [this, List.set_append_right _ _ (by simp; omega)]
      have : p.length + (m + 1) - (p ++ q' ++ [y]).length = 0 := by simp; omega
      rw [this]
      simp
theorem with_l0 (l : List Int) (n : Int) (hl : l.length ≤ 900000) (r : List Int) : ∀ (q p : List Int), l = p ++ q → (∀ a ∈ p, a < n) →
    Ev (fun k => q5z.j1 k l n (((p ++ q.takeWhile (fun a => decide (a < n))).length : Nat) : Int)) r → Ev (fun k => q5z.l0 k l n (p.length : Int)) r
  | [], p, hp, _, h => by
    rw [List.append_nil] at hp
    subst hp
    refine Ev.step (fun k => ?_) h
    simp only [q5z.l0]
    rw [if_neg (by omega), List.takeWhile_nil, List.append_nil]
  | a :: q, p, hp, hlt, h => by
    have hpl : p.length < l.length := by rw [hp]; simp
    have hr : rd l (p.length : Int) = a := by
      rw [rdI l _ hpl]
      simp [hp]
    by_cases ha : a < n
    · rw [List.takeWhile_cons_of_pos (by simpa using ha)] at h
      refine Ev.step (fun k => ?_) (with_l0 l n hl r q (p ++ [a]) (by rw [hp]; simp) (fun x hx => by
        rcases List.mem_append.1 hx with hx | hx
        · exact hlt x hx
        · rw [List.mem_singleton.1 hx]; exact ha) (by rw [List.append_assoc, List.singleton_append]; exact h))
      simp only [q5z.l0]
      rw [if_pos (by omega), if_pos (by omega), hr, if_pos ha, wr1 _ (by omega), List.length_append, List.length_singleton]
    · rw [List.takeWhile_cons_of_neg (by simpa using ha), List.append_nil] at h
      refine Ev.step (fun k => ?_) h
      simp only [q5z.l0]
      rw [if_pos (by omega), if_pos (by omega), hr, if_neg ha]
theorem with_ev (l : List Int) (n : Int) (hl : l.length ≤ 900000) : Ev (fun k => q5z.f k l n) (ins n l) := by
  refine Ev.congr (fun k => rfl) (with_l0 l n hl (ins n l) l [] rfl (fun a h => (List.not_mem_nil h).elim) ?_)
  rw [List.nil_append]
  have hs := ins_split n l
  unfold ins
  cases hd : l.dropWhile (fun a => decide (a < n)) with
  | nil =>
    rw [hd, List.append_nil] at hs
    simp only
    rw [← hs]
    refine Ev.step (fun k => ?_) (Ev.step (f := fun k => q5z.l1 k (l ++ [0]) n (l.length : Int) (l.length : Int)) (g := fun k => q5z.j2 k l n (l.length : Int) false) (fun k => ?_) ?_)
    · simp only [q5z.j1]
      rw [if_neg (by omega)]
    · simp only [q5z.j2]
      rw [if_neg (by simp), if_pos (by omega), Option.bind_some, wr _ (by simp only [List.length_append, List.length_singleton]; omega) (by simp only [List.length_append, List.length_singleton]; omega)]
      congr 1
      simp
    · have := with_l1 n l [] [] 0 (by simp; omega)
      simpa using this
  | cons a r =>
    rw [hd] at hs
    have hal : (l.takeWhile (fun a => decide (a < n))).length < l.length := by
      have := congrArg List.length hs
      simp only [List.length_append, List.length_cons] at this
      omega
    generalize hp : l.takeWhile (fun a => decide (a < n)) = p at hs hal ⊢
    have hr : rd l (p.length : Int) = a := by
      rw [rdI l _ hal]
      simp [hs]
    simp only
    by_cases ha : a = n
    · rw [if_pos ha]
      refine Ev.step (fun k => ?_) (Ev.step (f := fun _ => some l) (g := fun k => q5z.j2 k l n (p.length : Int) true) (fun k => ?_) (Ev.now _))
      · simp only [q5z.j1]
        rw [if_pos (by omega), if_pos (by omega), hr, ha]
        simp
      · simp only [q5z.j2]
        rw [if_pos trivial]
    · rw [if_neg ha]
      refine Ev.step (fun k => ?_) (Ev.step (f := fun k => q5z.l1 k (l ++ [0]) n (p.length : Int) (l.length : Int)) (g := fun k => q5z.j2 k l n (p.length : Int) false) (fun k => ?_) ?_)
      · simp only [q5z.j1]
        rw [if_pos (by omega), if_pos (by omega), hr, show (a == n) = false from by simpa using ha]
      · simp only [q5z.j2]
        rw [if_neg (by simp), if_pos (by omega), Option.bind_some, wr _ (by simp only [List.length_append, List.length_singleton]; omega) (by simp only [List.length_append, List.length_singleton]; omega)]
        congr 1
        simp
      · have h1 := with_l1 n p (a :: r) [] 0 (by have := congrArg List.length hs; simp only [List.length_append, List.length_cons, List.length_nil] at this ⊢; omega)
        have e1 : p ++ a :: r ++ [0] ++ [] = l ++ [0] := by rw [List.append_nil, ← hs]
        have e2 : p.length + (a :: r).length = l.length := by rw [← List.length_append, ← hs]
        rw [e1, e2] at h1
        rw [List.append_nil] at h1
        exact h1
theorem begins_l1 (L : List (List S33)) (l : List S33) (x11 : Int) (hl : l.length ≤ 100000) (hr : Rng l) (r : List Int) : ∀ (d i : Nat) (b : List Int), i + d = l.length → b.length + 2 * d ≤ 800000 →
    Ev (fun k => q6z.l0 k (cutS b (l.drop i)) L (L.length : Int) (wrap64 (x11 + 1))) r → Ev (fun k => q6z.l1 k b L (L.length : Int) x11 l (l.length : Int) (i : Int)) r
  | 0, i, b, hi, _, h => by
    rw [List.drop_eq_nil_of_le (by omega)] at h
    refine Ev.step (fun k => ?_) h
    simp only [q6z.l1]
    rw [if_neg (by omega), cutS]
  | d + 1, i, b, hi, hb, h => by
    have hil : i < l.length := by omega
    rw [List.drop_eq_getElem_cons hil] at h
    have hrd : rd_T33 l (i : Int) = l[i] := rdS l i hil
    have hs := hr l[i] (List.getElem_mem hil)
    generalize l[i] = s at hrd hs h
    unfold cutS at h
    have l1 := length_ins s.f0 b
    by_cases h1 : s.f0 > s.f1
    · rw [if_pos h1] at h
      refine Ev.step (fun k => ?_) (begins_l1 L l x11 hl hr r d (i + 1) b (by omega) (by omega) h)
      simp only [q6z.l1]
      rw [if_pos (by omega), if_pos (by omega), if_pos (by omega), hrd, if_pos h1, wr1 i (by omega)]
    · rw [if_neg h1] at h
      by_cases h2 : s.f1 < 4294967295
      · rw [if_pos h2] at h
        have l2 := length_ins (s.f1 + 1) (ins s.f0 b)
        refine Ev.step (fun k => ?_) (Ev.bind (with_ev b s.f0 (by omega)) (f := fun k t => if s.f1 < 4294967295 then ((q5z.f k t ((s.f1 + 1) % 4294967296)).bind fun t213 => (q6z.l1 k t213 L (L.length : Int) x11 l (l.length : Int) (wrap64 ((i : Int) + 1)))) else (q6z.l1 k t L (L.length : Int) x11 l (l.length : Int) (wrap64 ((i : Int) + 1)))) ?_)
        · simp only [q6z.l1]
          rw [if_pos (by omega), if_pos (by omega), if_pos (by omega), hrd, if_neg h1]
        · have hm : (s.f1 + 1) % 4294967296 = s.f1 + 1 := by omega
          simp only [if_pos h2, hm]
          refine Ev.bind (with_ev (ins s.f0 b) (s.f1 + 1) (by omega)) (f := fun k t => q6z.l1 k t L (L.length : Int) x11 l (l.length : Int) (wrap64 ((i : Int) + 1))) ?_
          rw [wr1 i (by omega)]
          exact begins_l1 L l x11 hl hr r d (i + 1) _ (by omega) (by omega) h
      · rw [if_neg h2] at h
        refine Ev.step (fun k => ?_) (Ev.bind (with_ev b s.f0 (by omega)) (f := fun k t => if s.f1 < 4294967295 then ((q5z.f k t ((s.f1 + 1) % 4294967296)).bind fun t213 => (q6z.l1 k t213 L (L.length : Int) x11 l (l.length : Int) (wrap64 ((i : Int) + 1)))) else (q6z.l1 k t L (L.length : Int) x11 l (l.length : Int) (wrap64 ((i : Int) + 1)))) ?_)
        · simp only [q6z.l1]
          rw [if_pos (by omega), if_pos (by omega), if_pos (by omega), hrd, if_neg h1]
        · simp only [if_neg h2]
          rw [wr1 i (by omega)]
          exact begins_l1 L l x11 hl hr r d (i + 1) _ (by omega) (by omega) h
theorem rdL (L : List (List S33)) (i : Nat) (h : i < L.length) : rd_L2 L (i : Int) = L[i] := by
  unfold rd_L2
  rw [Int.toNat_natCast, List.getD_eq_getElem?_getD, List.getElem?_eq_getElem h]
  rfl
theorem begins_l0 (L : List (List S33)) (hL : L.length ≤ 1000) (hr : ∀ l ∈ L, Rng l ∧ l.length ≤ 100000) : ∀ (d i : Nat) (b : List Int) (m : Nat), i + d = L.length → b.length + m ≤ 800000 → 2 * ((L.drop i).map List.length).sum ≤ m → Rising b →
    Ev (fun k => q6z.l0 k b L (L.length : Int) (i : Int)) (cutL b (L.drop i))
  | 0, i, b, m, hi, _, _, _ => by
    rw [List.drop_eq_nil_of_le (by omega)]
    refine Ev.step (f := fun _ => some b) (fun k => ?_) (Ev.now b)
    simp only [q6z.l0]
    rw [if_neg (by omega)]
  | d + 1, i, b, m, hi, hb, hm, hrb => by
    have hil : i < L.length := by omega
    rw [List.drop_eq_getElem_cons hil] at hm ⊢
    have hrl := hr L[i] (List.getElem_mem hil)
    rw [List.map_cons, List.sum_cons] at hm
    rw [cutL]
    obtain ⟨c1, _, c3⟩ := cutS_spec L[i] b hrb
    refine Ev.step (fun k => ?_) (begins_l1 L L[i] (i : Int) hrl.2 hrl.1 _ L[i].length 0 b (by omega) (by omega) (by
      rw [List.drop_zero, wr1 i (by omega)]
      exact begins_l0 L hL hr d (i + 1) _ (m - 2 * L[i].length) (by omega) (by omega) (by omega) c1))
    simp only [q6z.l0]
    rw [if_pos (by omega), if_pos (by omega), if_pos (by omega), rdL L i hil]
    rfl
theorem end_f (b : List Int) (i : Nat) (hi : i < b.length) (hb : b.length ≤ 900000) (hr : ∀ z ∈ b, 0 ≤ z ∧ z ≤ 4294967295) (hp : Rising b) (h0 : ∀ z ∈ b.drop 1, 0 < z) (g : Int → Bool) :
    q7z.f b (i : Int) = some (endOf ((b.drop (i + 1)).map (fun n => (n, g n)))) := by
  unfold q7z.f
  by_cases h : i + 1 = b.length
  · rw [if_pos (by rw [wr _ (by omega) (by omega)]; omega), List.drop_eq_nil_of_le (by omega)]
    rfl
  · have hlt : i + 1 < b.length := by omega
    rw [if_neg (by rw [wr _ (by omega) (by omega)]; omega), wr1 i (by omega), if_pos (by omega), if_pos (by omega), rdI b (i + 1) hlt, List.drop_eq_getElem_cons hlt]
    have hz := hr b[i + 1] (List.getElem_mem hlt)
    have hz0 : 0 < b[i + 1] := h0 _ (by
      have : b[i + 1] = (b.drop 1)[i]'(by simp; omega) := by simp [Nat.add_comm]
      rw [this]
      exact List.getElem_mem _)
    rw [List.map_cons]
    show some ((b[i + 1] - 1) % 4294967296) = some (b[i + 1] - 1)
    congr 1
    omega
end Go.Proofs.Ytconaifcjnpabaa.P

namespace Go.Proofs.Ytconaifcjnpabaa.P
open Go.RowKit Go.Proofs.YtconaifcjnpabaaW.PrintWords Go.Proofs.YtconaifcjnpabaaW.PrintLast Go.Proofs.YtconaifcjnpabaaW.PrintMore
attribute [local go_sem] max2_int min2_int max_two min_two max_three min_three max_four min_four
set_option linter.unusedVariables false
set_option linter.unusedSimpArgs false

/-! ### span_Meet: function 18 -/
mutual
def q14z.l0 : Nat → List (S33) → List (S33) → List (S33) → Option ((List (S33)))
 | 0, _, _, _ => none
 | k + 1, x0, x1, x5 => if (x0.length : Int) > 0 then (q14z.j1 k x0 x1 x5 (decide ((x1.length : Int) > 0))) else (q14z.j1 k x0 x1 x5 false)
def q14z.j1 : Nat → List (S33) → List (S33) → List (S33) → Bool → Option ((List (S33)))
 | 0, _, _, _, _ => none
 | k + 1, x0, x1, x5, x19 => if x19 = true then (if 0 < (x0.length : Int) then (if 0 < (x1.length : Int) then (if (mx ((rd_T33 x0 0).f0) ((rd_T33 x1 0).f0)) ≤ (mn ((rd_T33 x0 0).f1) ((rd_T33 x1 0).f1)) then (if x5.length < 17592186044416 then (q14z.j2 k x0 x1 (x5 ++ [(⟨mx ((rd_T33 x0 0).f0) ((rd_T33 x1 0).f0), mn ((rd_T33 x0 0).f1) ((rd_T33 x1 0).f1)⟩ : S33)]) (mn ((rd_T33 x0 0).f1) ((rd_T33 x1 0).f1))) else (none)) else (q14z.j2 k x0 x1 x5 (mn ((rd_T33 x0 0).f1) ((rd_T33 x1 0).f1)))) else (none)) else (none)) else (some x5)
def q14z.j2 : Nat → List (S33) → List (S33) → List (S33) → Int → Option ((List (S33)))
 | 0, _, _, _, _ => none
 | k + 1, x0, x1, x5, x7 => if x7 = 4294967295 then (some x5) else (if 0 < (x0.length : Int) then (if ((rd_T33 x0 0).f1) = x7 then (if 1 ≤ (x0.length : Int) then (q14z.l0 k (x0.drop (1 : Int).toNat) x1 x5) else (none)) else (if 1 ≤ (x1.length : Int) then (q14z.l0 k x0 (x1.drop (1 : Int).toNat) x5) else (none))) else (none))
end
def q14z.f (k : Nat) (l0 : List (S33)) (l1 : List (S33)) : Option ((List (S33))) := (q2z.f k l0).bind fun t1 => ((q2z.f k l1).bind fun t4 => (q14z.l0 k t1 t4 ([] : List (S33))))
theorem q14z.mono_l : ∀ k, (∀ y0 y1 y2, LeO (q14z.l0 k y0 y1 y2) (q14z.l0 (k + 1) y0 y1 y2)) ∧ (∀ y0 y1 y2 y3, LeO (q14z.j1 k y0 y1 y2 y3) (q14z.j1 (k + 1) y0 y1 y2 y3)) ∧ (∀ y0 y1 y2 y3, LeO (q14z.j2 k y0 y1 y2 y3) (q14z.j2 (k + 1) y0 y1 y2 y3))
 | 0 => ⟨fun _ _ _ r h => by simp [q14z.l0] at h, fun _ _ _ _ r h => by simp [q14z.j1] at h, fun _ _ _ _ r h => by simp [q14z.j2] at h⟩
 | k + 1 => by
  obtain ⟨ih0, ih1, ih2⟩ := q14z.mono_l k
  refine ⟨?_, ?_, ?_⟩
  ·
   intro y0 y1 y2
   unfold q14z.l0
   repeat' first
   | (with_reducible exact ih0 _ _ _)
   | (with_reducible exact ih1 _ _ _ _)
   | (with_reducible exact ih2 _ _ _ _)
   | (with_reducible exact q2z.mono _ _)
   | (with_reducible exact LeO.refl _)
   | (with_reducible exact LeO.none _)
   | (with_reducible refine LeO.ite ?_ ?_)
   | (with_reducible refine LeO.bind ?_ (fun _ => ?_))
   | exact ih0 _ _ _
   | exact ih1 _ _ _ _
   | exact ih2 _ _ _ _
   | exact q2z.mono _ _
   | exact LeO.none _
   | refine LeO.ite ?_ ?_
   | refine LeO.bind ?_ (fun _ => ?_)
  ·
   intro y0 y1 y2 y3
   unfold q14z.j1
   repeat' first
   | (with_reducible exact ih0 _ _ _)
   | (with_reducible exact ih1 _ _ _ _)
   | (with_reducible exact ih2 _ _ _ _)
   | (with_reducible exact q2z.mono _ _)
   | (with_reducible exact LeO.refl _)
   | (with_reducible exact LeO.none _)
   | (with_reducible refine LeO.ite ?_ ?_)
   | (with_reducible refine LeO.bind ?_ (fun _ => ?_))
   | exact ih0 _ _ _
   | exact ih1 _ _ _ _
   | exact ih2 _ _ _ _
   | exact q2z.mono _ _
   | exact LeO.none _
   | refine LeO.ite ?_ ?_
   | refine LeO.bind ?_ (fun _ => ?_)
  ·
   intro y0 y1 y2 y3
   unfold q14z.j2
   repeat' first
   | (with_reducible exact ih0 _ _ _)
   | (with_reducible exact ih1 _ _ _ _)
   | (with_reducible exact ih2 _ _ _ _)
   | (with_reducible exact q2z.mono _ _)
   | (with_reducible exact LeO.refl _)
   | (with_reducible exact LeO.none _)
   | (with_reducible refine LeO.ite ?_ ?_)
   | (with_reducible refine LeO.bind ?_ (fun _ => ?_))
   | exact ih0 _ _ _
   | exact ih1 _ _ _ _
   | exact ih2 _ _ _ _
   | exact q2z.mono _ _
   | exact LeO.none _
   | refine LeO.ite ?_ ?_
   | refine LeO.bind ?_ (fun _ => ?_)
theorem q14z.mono : ∀ a0 a1 k, LeO (q14z.f k a0 a1) (q14z.f (k + 1) a0 a1) := by
 intro a0 a1 k
 obtain ⟨ih0, ih1, ih2⟩ := q14z.mono_l k
 unfold q14z.f
 repeat' first
   | (with_reducible exact ih0 _ _ _)
   | (with_reducible exact ih1 _ _ _ _)
   | (with_reducible exact ih2 _ _ _ _)
   | (with_reducible exact q2z.mono _ _)
   | (with_reducible exact LeO.refl _)
   | (with_reducible exact LeO.none _)
   | (with_reducible refine LeO.ite ?_ ?_)
   | (with_reducible refine LeO.bind ?_ (fun _ => ?_))
   | exact ih0 _ _ _
   | exact ih1 _ _ _ _
   | exact ih2 _ _ _ _
   | exact q2z.mono _ _
   | exact LeO.none _
   | refine LeO.ite ?_ ?_
   | refine LeO.bind ?_ (fun _ => ?_)
set_option maxHeartbeats 8000000 in
set_option maxRecDepth 100000 in
theorem q14z.calls (k : Nat) (A0 : Option Addr) (c0 : Nat) (l0 : List (S33)) (A1 : Option Addr) (c1 : Nat) (l1 : List (S33)) (r : List (S33)) (w : World) (hr0 : Kd.C k33 w A0 l0.length l0) (hc0 : l0.length ≤ c0) (hr1 : Kd.C k33 w A1 l1.length l1) (hc1 : l1.length ≤ c1) (h : q14z.f k l0 l1 = some r) :
  Calls Try.prog 18 #[.slice A0 l0.length c0, .slice A1 l1.length c1] w fun e w' => ∃ v0_ : Value, e = .returned (v0_) ∧ Kd.R k33 33 w' w.heap.size (fun _ => True) v0_ r ∧ Below w.heap.size w w' := by
 have hu33 := Try.underlying33
 have HR0 := Aside0.mk hr0
 have HC0 := Aside0.mk hc0
 clear hr0 hc0
 have HR1 := Aside0.mk hr1
 have HC1 := Aside0.mk hc1
 clear hr1 hc1
 have HB := Aside0.mk (Below.refl w.heap.size w)
 have H : ((q2z.f k l0).bind fun t1 => ((q2z.f k l1).bind fun t4 => (q14z.l0 k t1 t4 ([] : List (S33))))) = some r := h
 clear h
 replace H := Option.bind_eq_some_iff.mp H
 obtain ⟨t1, A30, H⟩ := H
 replace H : ((q2z.f k l1).bind fun t4 => (q14z.l0 k t1 t4 ([] : List (S33)))) = some r := H
 have A3 := Aside0.mk A30
 clear A30
 replace H := Option.bind_eq_some_iff.mp H
 obtain ⟨t4, A40, H⟩ := H
 replace H : (q14z.l0 k t1 t4 ([] : List (S33))) = some r := H
 have A4 := Aside0.mk A40
 clear A40
 have H' := Aside0.mk H
 clear H
 go_enter Try.func18, Try.ntmps18
 go_wp2_with (first | go_step3 | (go_at_call 14; (with_reducible refine (q2z.calls k _ _ l0 t1 _ ?side1 ?side2 A3.out).mono ?_); (case side1 => repeat (first | exact HR0.out | (with_reducible refine Kd.C_alloc ?_ _) | (with_reducible refine Kd.C_drewN ?_ _) | (with_reducible refine Kd.C_drew ?_))); (case side2 => exact HC0.out); rintro e w5 ⟨v2, rfl, ho0, hb⟩; have n0_ := Aside0.mk (Kd.R_lower ho0 (below_size (by repeat (first | (with_reducible first | exact HB.out | apply below_alloc | apply pw_below_drewN | apply below_drew1) | exact HB.out)))); have n1_ := Aside0.mk (below_step (by repeat (first | (with_reducible first | exact HB.out | apply below_alloc | apply pw_below_drewN | apply below_drew1) | exact HB.out)) hb); clear HB; have HO3 := n0_; have HB := n1_; clear n0_ n1_; (try clear hb); (try clear hb2); (try clear hk); (try clear hi); (try clear ho0)) | (go_at_call 14; (with_reducible refine (q2z.calls k _ _ l1 t4 _ ?side1 ?side2 A4.out).mono ?_); (case side1 => repeat (first | exact (Kd.C_below HR1.out HB.out) | (with_reducible refine Kd.C_alloc ?_ _) | (with_reducible refine Kd.C_drewN ?_ _) | (with_reducible refine Kd.C_drew ?_))); (case side2 => exact HC1.out); rintro e w6 ⟨v5, rfl, ho0, hb⟩; have n0_ := Aside0.mk (Kd.R_elder' (by (with_reducible repeat (first | apply Kd.R_alloc | apply Kd.R_drewN | apply Kd.R_drew)); exact HO3.out) (Kd.R_base ho0) hb); have n1_ := Aside0.mk (Kd.R_lower (Kd.R_new' ho0 (Kd.R_lt (by (with_reducible repeat (first | apply Kd.R_alloc | apply Kd.R_drewN | apply Kd.R_drew)); exact HO3.out))) (below_size (by repeat (first | (with_reducible first | exact HB.out | apply below_alloc | apply pw_below_drewN | apply below_drew1) | exact HB.out)))); have n2_ := Aside0.mk (below_step (by repeat (first | (with_reducible first | exact HB.out | apply below_alloc | apply pw_below_drewN | apply below_drew1) | exact HB.out)) hb); clear HO3; clear HB; have HO3 := n0_; have HO6 := n1_; have HB := n2_; clear n0_ n1_ n2_; (try clear hb); (try clear hb2); (try clear hk); (try clear hi); (try clear ho0)))
 repeat (go_quiet (first | (go_at_call 14; (with_reducible refine (q2z.calls k _ _ l0 t1 _ ?side1 ?side2 A3.out).mono ?_); (case side1 => repeat (first | exact HR0.out | (with_reducible refine Kd.C_alloc ?_ _) | (with_reducible refine Kd.C_drewN ?_ _) | (with_reducible refine Kd.C_drew ?_))); (case side2 => exact HC0.out); rintro e w5 ⟨v2, rfl, ho0, hb⟩; have n0_ := Aside0.mk (Kd.R_lower ho0 (below_size (by repeat (first | (with_reducible first | exact HB.out | apply below_alloc | apply pw_below_drewN | apply below_drew1) | exact HB.out)))); have n1_ := Aside0.mk (below_step (by repeat (first | (with_reducible first | exact HB.out | apply below_alloc | apply pw_below_drewN | apply below_drew1) | exact HB.out)) hb); clear HB; have HO3 := n0_; have HB := n1_; clear n0_ n1_; (try clear hb); (try clear hb2); (try clear hk); (try clear hi); (try clear ho0)) | (go_at_call 14; (with_reducible refine (q2z.calls k _ _ l1 t4 _ ?side1 ?side2 A4.out).mono ?_); (case side1 => repeat (first | exact (Kd.C_below HR1.out HB.out) | (with_reducible refine Kd.C_alloc ?_ _) | (with_reducible refine Kd.C_drewN ?_ _) | (with_reducible refine Kd.C_drew ?_))); (case side2 => exact HC1.out); rintro e w6 ⟨v5, rfl, ho0, hb⟩; have n0_ := Aside0.mk (Kd.R_elder' (by (with_reducible repeat (first | apply Kd.R_alloc | apply Kd.R_drewN | apply Kd.R_drew)); exact HO3.out) (Kd.R_base ho0) hb); have n1_ := Aside0.mk (Kd.R_lower (Kd.R_new' ho0 (Kd.R_lt (by (with_reducible repeat (first | apply Kd.R_alloc | apply Kd.R_drewN | apply Kd.R_drew)); exact HO3.out))) (below_size (by repeat (first | (with_reducible first | exact HB.out | apply below_alloc | apply pw_below_drewN | apply below_drew1) | exact HB.out)))); have n2_ := Aside0.mk (below_step (by repeat (first | (with_reducible first | exact HB.out | apply below_alloc | apply pw_below_drewN | apply below_drew1) | exact HB.out)) hb); clear HO3; clear HB; have HO3 := n0_; have HO6 := n1_; have HB := n2_; clear n0_ n1_ n2_; (try clear hb); (try clear hb2); (try clear hk); (try clear hi); (try clear ho0))); try go_wp2_with (first | go_step3 | (go_at_call 14; (with_reducible refine (q2z.calls k _ _ l0 t1 _ ?side1 ?side2 A3.out).mono ?_); (case side1 => repeat (first | exact HR0.out | (with_reducible refine Kd.C_alloc ?_ _) | (with_reducible refine Kd.C_drewN ?_ _) | (with_reducible refine Kd.C_drew ?_))); (case side2 => exact HC0.out); rintro e w5 ⟨v2, rfl, ho0, hb⟩; have n0_ := Aside0.mk (Kd.R_lower ho0 (below_size (by repeat (first | (with_reducible first | exact HB.out | apply below_alloc | apply pw_below_drewN | apply below_drew1) | exact HB.out)))); have n1_ := Aside0.mk (below_step (by repeat (first | (with_reducible first | exact HB.out | apply below_alloc | apply pw_below_drewN | apply below_drew1) | exact HB.out)) hb); clear HB; have HO3 := n0_; have HB := n1_; clear n0_ n1_; (try clear hb); (try clear hb2); (try clear hk); (try clear hi); (try clear ho0)) | (go_at_call 14; (with_reducible refine (q2z.calls k _ _ l1 t4 _ ?side1 ?side2 A4.out).mono ?_); (case side1 => repeat (first | exact (Kd.C_below HR1.out HB.out) | (with_reducible refine Kd.C_alloc ?_ _) | (with_reducible refine Kd.C_drewN ?_ _) | (with_reducible refine Kd.C_drew ?_))); (case side2 => exact HC1.out); rintro e w6 ⟨v5, rfl, ho0, hb⟩; have n0_ := Aside0.mk (Kd.R_elder' (by (with_reducible repeat (first | apply Kd.R_alloc | apply Kd.R_drewN | apply Kd.R_drew)); exact HO3.out) (Kd.R_base ho0) hb); have n1_ := Aside0.mk (Kd.R_lower (Kd.R_new' ho0 (Kd.R_lt (by (with_reducible repeat (first | apply Kd.R_alloc | apply Kd.R_drewN | apply Kd.R_drew)); exact HO3.out))) (below_size (by repeat (first | (with_reducible first | exact HB.out | apply below_alloc | apply pw_below_drewN | apply below_drew1) | exact HB.out)))); have n2_ := Aside0.mk (below_step (by repeat (first | (with_reducible first | exact HB.out | apply below_alloc | apply pw_below_drewN | apply below_drew1) | exact HB.out)) hb); clear HO3; clear HB; have HO3 := n0_; have HO6 := n1_; have HB := n2_; clear n0_ n1_ n2_; (try clear hb); (try clear hb2); (try clear hk); (try clear hi); (try clear ho0))))
 go_loopg [0, 1, 5] k (fun kq v0 v1 v5 w' => ∃ (x0_1 : List (S33)) (x1_1 : List (S33)) (x5_1 : List (S33)), Aside0 (q14z.l0 kq x0_1 x1_1 x5_1 = some r) ∧ Aside0 (kq ≤ k) ∧ Aside0 (Kd.Q k33 33 w' w.heap.size (fun k_ => some k_ ≠ (v1 : Value).ownBlock ∧ some k_ ≠ (v5 : Value).ownBlock) v0 x0_1) ∧ Aside0 (Kd.Q k33 33 w' w.heap.size (fun k_ => some k_ ≠ (v0 : Value).ownBlock ∧ some k_ ≠ (v5 : Value).ownBlock) v1 x1_1) ∧ Aside0 (Kd.R k33 33 w' w.heap.size (fun k_ => some k_ ≠ (v0 : Value).ownBlock ∧ some k_ ≠ (v1 : Value).ownBlock) v5 x5_1) ∧ Aside0 (Below w.heap.size w w'))
 case atStart => exact ⟨(t1), (t4), (([] : List (S33))), H', ⟨Nat.le_refl _⟩, ⟨Kd.Q_of_R (by (with_reducible repeat (first | apply Kd.R_alloc | apply Kd.R_drewN | apply Kd.R_drew)); exact Kd.R_mono HO3.out (fun _ hk => ⟨hk.2, (by simp [Value.ownBlock])⟩))⟩, ⟨Kd.Q_of_R (by (with_reducible repeat (first | apply Kd.R_alloc | apply Kd.R_drewN | apply Kd.R_drew)); exact Kd.R_mono HO6.out (fun _ hk => ⟨hk.2, (by simp [Value.ownBlock])⟩))⟩, ⟨by first | exact Kd.R_nil _ _ _ _ _ | exact Kd.N_nil _ _ _ _ _ | exact Kd.V_nil _ _ _ _ _ | exact Kd.Q_nil _ _ _ _ _ | exact Kd.S_nil _ _ _ _ _⟩, ⟨by repeat (first | (with_reducible first | exact HB.out | apply below_alloc | apply pw_below_drewN | apply below_drew1) | exact HB.out)⟩⟩
 case round =>
  clear H'
  try clear c1
  try clear p2
  obtain ⟨x0_1, x1_1, x5_1, HA, HK1, HO_0, HO_1, HO_5, HB⟩ := hrel
  cases gk with
  | zero => exact absurd HA.out (by simp [q14z.l0])
  | succ k1 =>
   have H := HA.out
   clear HA
   simp only [q14z.l0] at H
   have HC7 := Aside0.mk H
   clear H
   go_upto_region 3 with (fail)
   repeat (go_quiet (fail); go_upto_region 3 with (fail))
   go_cut [19] (fun v19 wc => ∃ (kq : Nat) (x19_6 : Bool), v19 = .bool x19_6 ∧ Aside0 (q14z.j1 kq x0_1 x1_1 x5_1 x19_6 = some r) ∧ Aside0 (kq ≤ k1) ∧ Aside0 (Kd.Q k33 33 wc w.heap.size (fun k_ => some k_ ≠ (u1 : Value).ownBlock ∧ some k_ ≠ (u5 : Value).ownBlock) u0 x0_1) ∧ Aside0 (Kd.Q k33 33 wc w.heap.size (fun k_ => some k_ ≠ (u0 : Value).ownBlock ∧ some k_ ≠ (u5 : Value).ownBlock) u1 x1_1) ∧ Aside0 (Kd.R k33 33 wc w.heap.size (fun k_ => some k_ ≠ (u0 : Value).ownBlock ∧ some k_ ≠ (u1 : Value).ownBlock) u5 x5_1) ∧ Aside0 (Below w.heap.size w wc))
   case first =>
    have H := HC7.out
    clear HC7
    by_cases c8 : (x0_1.length : Int) > 0
    ·
     rw [if_pos c8] at H
     have c8b0 : decide (0 < (x0_1.length : Int)) = true := decide_eq_true c8
     have c8b1 : decide (0 < x0_1.length) = true := decide_eq_true (by omega)
     clear c8
     (first | rw [c8b0] | (simp only [i64_w, i32_w, IntKind.wrap_u32]; rw [c8b0]) | skip)
     have H' := Aside0.mk H
     clear H
     obtain ⟨Ao9, co9, eo9, _⟩ := Kd.Q_slice HO_0.out
     subst eo9
     obtain ⟨Ao10, co10, eo10, _⟩ := Kd.Q_slice HO_1.out
     subst eo10
     go_wp2
     repeat (go_quiet (fail); try go_wp2)
     go_meet
     case rel => exact ⟨_, (decide ((x1_1.length : Int) > 0)), (by first | rfl | (simp; done) | (simp [*]; done)), H', ⟨by have := HK1.out; first | omega | exact Nat.le_refl _⟩, ⟨by (with_reducible repeat (first | apply Kd.Q_alloc | apply Kd.Q_drewN | apply Kd.Q_drew)); exact HO_0.out⟩, ⟨by (with_reducible repeat (first | apply Kd.Q_alloc | apply Kd.Q_drewN | apply Kd.Q_drew)); exact HO_1.out⟩, ⟨by (with_reducible repeat (first | apply Kd.R_alloc | apply Kd.R_drewN | apply Kd.R_drew)); exact HO_5.out⟩, ⟨by repeat (first | (with_reducible first | exact HB.out | apply below_alloc | apply pw_below_drewN | apply below_drew1) | exact HB.out)⟩⟩
    ·
     rw [if_neg c8] at H
     have c8b0 : decide (0 < (x0_1.length : Int)) = false := decide_eq_false c8
     have c8b1 : decide (0 < x0_1.length) = false := decide_eq_false (by omega)
     clear c8
     (first | rw [c8b0] | (simp only [i64_w, i32_w, IntKind.wrap_u32]; rw [c8b0]) | skip)
     have H' := Aside0.mk H
     clear H
     obtain ⟨Ao11, co11, eo11, _⟩ := Kd.Q_slice HO_0.out
     subst eo11
     go_wp2
     repeat (go_quiet (fail); try go_wp2)
     go_meet
     case rel => exact ⟨_, (false), (by first | rfl | (simp; done) | (simp [*]; done)), H', ⟨by have := HK1.out; first | omega | exact Nat.le_refl _⟩, ⟨by (with_reducible repeat (first | apply Kd.Q_alloc | apply Kd.Q_drewN | apply Kd.Q_drew)); exact HO_0.out⟩, ⟨by (with_reducible repeat (first | apply Kd.Q_alloc | apply Kd.Q_drewN | apply Kd.Q_drew)); exact HO_1.out⟩, ⟨by (with_reducible repeat (first | apply Kd.R_alloc | apply Kd.R_drewN | apply Kd.R_drew)); exact HO_5.out⟩, ⟨by repeat (first | (with_reducible first | exact HB.out | apply below_alloc | apply pw_below_drewN | apply below_drew1) | exact HB.out)⟩⟩
   case rest =>
    clear HC7
    try clear c1
    try clear p2
    try clear c8
    try clear c8b0
    try clear c8b1
    try clear p2
    obtain ⟨kq, x19_6, rfl, HA, HJ6, HO_0, HO_1, HO_5, HB⟩ := hcut
    cases kq with
    | zero => exact absurd HA.out (by simp [q14z.j1])
    | succ kj6 =>
     have H := HA.out
     clear HA
     simp only [q14z.j1] at H
     by_cases c12 : x19_6 = true
     ·
      subst c12
      have H1 : (if 0 < (x0_1.length : Int) then (if 0 < (x1_1.length : Int) then (if (mx ((rd_T33 x0_1 0).f0) ((rd_T33 x1_1 0).f0)) ≤ (mn ((rd_T33 x0_1 0).f1) ((rd_T33 x1_1 0).f1)) then (if x5_1.length < 17592186044416 then (q14z.j2 kj6 x0_1 x1_1 (x5_1 ++ [(⟨mx ((rd_T33 x0_1 0).f0) ((rd_T33 x1_1 0).f0), mn ((rd_T33 x0_1 0).f1) ((rd_T33 x1_1 0).f1)⟩ : S33)]) (mn ((rd_T33 x0_1 0).f1) ((rd_T33 x1_1 0).f1))) else (none)) else (q14z.j2 kj6 x0_1 x1_1 x5_1 (mn ((rd_T33 x0_1 0).f1) ((rd_T33 x1_1 0).f1)))) else (none)) else (none)) = some r := by rw [if_pos rfl] at H; exact H
      clear H
      have H := H1
      clear H1
      by_cases c13 : 0 < (x0_1.length : Int)
      ·
       rw [if_pos c13] at H
       have c13b0 : decide (0 < (x0_1.length : Int)) = true := decide_eq_true c13
       have c13b1 : decide (0 < x0_1.length) = true := decide_eq_true (by omega)
       clear c13
       by_cases c14 : 0 < (x1_1.length : Int)
       ·
        rw [if_pos c14] at H
        have c14b0 : decide (0 < (x1_1.length : Int)) = true := decide_eq_true c14
        have c14b1 : decide (0 < x1_1.length) = true := decide_eq_true (by omega)
        clear c14
        obtain ⟨ji15, hji15⟩ : ∃ j_ : Int, (mx ((rd_T33 x0_1 0).f0) ((rd_T33 x1_1 0).f0)) = j_ := ⟨_, rfl⟩
        replace H : (if (ji15) ≤ (mn ((rd_T33 x0_1 0).f1) ((rd_T33 x1_1 0).f1)) then (if x5_1.length < 17592186044416 then (q14z.j2 kj6 x0_1 x1_1 (x5_1 ++ [(⟨ji15, mn ((rd_T33 x0_1 0).f1) ((rd_T33 x1_1 0).f1)⟩ : S33)]) (mn ((rd_T33 x0_1 0).f1) ((rd_T33 x1_1 0).f1))) else (none)) else (q14z.j2 kj6 x0_1 x1_1 x5_1 (mn ((rd_T33 x0_1 0).f1) ((rd_T33 x1_1 0).f1)))) = some r := by first | (rw [hji15] at H; exact H) | (simp only [hji15] at H ⊢; exact H)
        have hji15_ : (if ((rd_T33 x0_1 0).f0) < ((rd_T33 x1_1 0).f0) then ((rd_T33 x1_1 0).f0) else ((rd_T33 x0_1 0).f0)) = ji15 := hji15
        obtain ⟨ji16, hji16⟩ : ∃ j_ : Int, (mn ((rd_T33 x0_1 0).f1) ((rd_T33 x1_1 0).f1)) = j_ := ⟨_, rfl⟩
        replace H : (if (ji15) ≤ (ji16) then (if x5_1.length < 17592186044416 then (q14z.j2 kj6 x0_1 x1_1 (x5_1 ++ [(⟨ji15, ji16⟩ : S33)]) ji16) else (none)) else (q14z.j2 kj6 x0_1 x1_1 x5_1 ji16)) = some r := by first | (rw [hji16] at H; exact H) | (simp only [hji16] at H ⊢; exact H)
        have hji16_ : (if ((rd_T33 x1_1 0).f1) < ((rd_T33 x0_1 0).f1) then ((rd_T33 x1_1 0).f1) else ((rd_T33 x0_1 0).f1)) = ji16 := hji16
        have HC17 := Aside0.mk H
        clear H
        obtain ⟨Ao18, co18, eo18, _⟩ := Kd.Q_slice HO_0.out
        subst eo18
        have p7 : 0 ≤ (0 : Int) := (by omega)
        have q7 : 0 < (x0_1.length : Int) := of_decide_eq_true (by first | (with_reducible assumption) | assumption)
        obtain ⟨ad7, e7, hx7_0, hx7_1⟩ := at_T33 (Kd.Q_reads' HO_0.out).2.2 0 p7 q7
        cases e7
        have qi7 : (0 < x0_1.length) = True := eq_true (by omega)
        (try rw [show ((0 : Int)).toNat = 0 from rfl] at hx7_0)
        (try rw [show 0 * 2 = 0 from rfl] at hx7_0)
        (try rw [Addr.add_zero'] at hx7_0)
        (try rw [show ((0 : Int)).toNat = 0 from rfl] at hx7_1)
        (try rw [show 0 * 2 = 0 from rfl] at hx7_1)
        (try rw [Addr.add_zero'] at hx7_1)
        replace p7 := eq_true p7
        replace q7 := eq_true q7
        obtain ⟨Ao19, co19, eo19, _⟩ := Kd.Q_slice HO_1.out
        subst eo19
        have p8 : 0 ≤ (0 : Int) := (by omega)
        have q8 : 0 < (x1_1.length : Int) := of_decide_eq_true (by first | (with_reducible assumption) | assumption)
        obtain ⟨ad8, e8, hx8_0, hx8_1⟩ := at_T33 (Kd.Q_reads' HO_1.out).2.2 0 p8 q8
        cases e8
        have qi8 : (0 < x1_1.length) = True := eq_true (by omega)
        (try rw [show ((0 : Int)).toNat = 0 from rfl] at hx8_0)
        (try rw [show 0 * 2 = 0 from rfl] at hx8_0)
        (try rw [Addr.add_zero'] at hx8_0)
        (try rw [show ((0 : Int)).toNat = 0 from rfl] at hx8_1)
        (try rw [show 0 * 2 = 0 from rfl] at hx8_1)
        (try rw [Addr.add_zero'] at hx8_1)
        replace p8 := eq_true p8
        replace q8 := eq_true q8
        have p9 : 0 ≤ (0 : Int) := (by omega)
        have q9 : 0 < (x0_1.length : Int) := of_decide_eq_true (by first | (with_reducible assumption) | assumption)
        obtain ⟨ad9, e9, hx9_0, hx9_1⟩ := at_T33 (Kd.Q_reads' HO_0.out).2.2 0 p9 q9
        obtain rfl : ad7 = ad9 := (by injection e9)
        have qi9 : (0 < x0_1.length) = True := eq_true (by omega)
        (try rw [show ((0 : Int)).toNat = 0 from rfl] at hx9_0)
        (try rw [show 0 * 2 = 0 from rfl] at hx9_0)
        (try rw [Addr.add_zero'] at hx9_0)
        (try rw [show ((0 : Int)).toNat = 0 from rfl] at hx9_1)
        (try rw [show 0 * 2 = 0 from rfl] at hx9_1)
        (try rw [Addr.add_zero'] at hx9_1)
        replace p9 := eq_true p9
        replace q9 := eq_true q9
        have p10 : 0 ≤ (0 : Int) := (by omega)
        have q10 : 0 < (x1_1.length : Int) := of_decide_eq_true (by first | (with_reducible assumption) | assumption)
        obtain ⟨ad10, e10, hx10_0, hx10_1⟩ := at_T33 (Kd.Q_reads' HO_1.out).2.2 0 p10 q10
        obtain rfl : ad8 = ad10 := (by injection e10)
        have qi10 : (0 < x1_1.length) = True := eq_true (by omega)
        (try rw [show ((0 : Int)).toNat = 0 from rfl] at hx10_0)
        (try rw [show 0 * 2 = 0 from rfl] at hx10_0)
        (try rw [Addr.add_zero'] at hx10_0)
        (try rw [show ((0 : Int)).toNat = 0 from rfl] at hx10_1)
        (try rw [show 0 * 2 = 0 from rfl] at hx10_1)
        (try rw [Addr.add_zero'] at hx10_1)
        replace p10 := eq_true p10
        replace q10 := eq_true q10
        go_upto_if 40 with (fail)
        repeat (go_quiet (fail); go_upto_if 40 with (fail))
        go_cut [5] (fun v5 wc => ∃ (kq : Nat) (x5_16 : List (S33)), Aside0 (q14z.j2 kq x0_1 x1_1 x5_16 ji16 = some r) ∧ Aside0 (kq ≤ kj6) ∧ Aside0 (Kd.Q k33 33 wc w.heap.size (fun k_ => some k_ ≠ ((.slice (some ad8) x1_1.length co19) : Value).ownBlock ∧ some k_ ≠ (v5 : Value).ownBlock) (.slice (some ad7) x0_1.length co18) x0_1) ∧ Aside0 (Kd.Q k33 33 wc w.heap.size (fun k_ => some k_ ≠ ((.slice (some ad7) x0_1.length co18) : Value).ownBlock ∧ some k_ ≠ (v5 : Value).ownBlock) (.slice (some ad8) x1_1.length co19) x1_1) ∧ Aside0 (Kd.R k33 33 wc w.heap.size (fun k_ => some k_ ≠ ((.slice (some ad7) x0_1.length co18) : Value).ownBlock ∧ some k_ ≠ ((.slice (some ad8) x1_1.length co19) : Value).ownBlock) v5 x5_16) ∧ Aside0 (Below w.heap.size w wc))
        case first =>
         have H := HC17.out
         clear HC17
         by_cases c20 : (ji15) ≤ (ji16)
         ·
          rw [if_pos c20] at H
          have c20b0 : decide ((ji15) ≤ (ji16)) = true := decide_eq_true c20
          clear c20
          (first | rw [c20b0] | (simp only [i64_w, i32_w, IntKind.wrap_u32]; rw [c20b0]) | skip)
          by_cases c21 : x5_1.length < 17592186044416
          ·
           rw [if_pos c21] at H
           have LMc21 := Aside0.mk c21
           clear c21
           obtain ⟨y11, hy11⟩ : ∃ y_ : List (S33), y_ = (x5_1 ++ [(⟨ji15, ji16⟩ : S33)]) := ⟨_, rfl⟩
           replace H : (q14z.j2 kj6 x0_1 x1_1 y11 ji16) = some r := by first | (rw [hy11]; with_reducible exact H) | (have H2_ := (Option.bind_some _ _).symm.trans H; rw [hy11]; with_reducible exact H2_) | (have H2_ := (Option.bind_some _ _).symm.trans H; with_reducible exact H2_) | with_reducible exact H | (rw [hy11]; exact H) | exact H
           have Ny11 := Aside0.mk hy11
           clear hy11
           have H' := Aside0.mk H
           clear H
           go_wp2_with (first | go_step3 | ((with_reducible refine gate_builtin (b := .append) (xs := #[.tmp 41, .tmp 45]) rfl ?_); (try (refine gate_guard (by rfl) ?_; dsimp only)); at_builtin; refine Kd.R_append k33 (w0 := w) w.heap.size rfl (.tmp 41) (.tmp 45) 24 33 (.agg #[(.int .u32 0), (.int .u32 0)]) 8 rfl Try.underlying24 info33 rfl (by decide) (by omega) u5 x5_1 (⟨ji15, ji16⟩ : S33) [.int .u32 ji15, .int .u32 ji16] (fun k_ => some k_ ≠ (.slice (some ad7) x0_1.length co18 : Value).ownBlock ∧ some k_ ≠ (.slice (some ad8) x1_1.length co19 : Value).ownBlock) (fun _ => False) rfl rfl ?aP (fun _ hk => hk.elim) ?aF ?aO ?aB ?aS ?aL ?_; (case aP => exact k33_mkM _ _ _ (⟨ji15, ji16⟩ : S33)); (case aB => exact (by repeat (first | (with_reducible first | exact HB.out | apply below_alloc | apply pw_below_drewN | apply below_drew1) | exact HB.out))); (case aF => exact (fun k_ hk => ⟨Kd.fresh' (Kd.Q_lt (by (with_reducible repeat (first | apply Kd.Q_alloc | apply Kd.Q_drewN | apply Kd.Q_drew)); exact HO_0.out)) k_ hk, Kd.fresh' (Kd.Q_lt (by (with_reducible repeat (first | apply Kd.Q_alloc | apply Kd.Q_drewN | apply Kd.Q_drew)); exact HO_1.out)) k_ hk⟩)); (case aO => exact (by (with_reducible repeat (first | apply Kd.R_alloc | apply Kd.R_drewN | apply Kd.R_drew)); exact HO_5.out)); (case aS => exact (below_size (by repeat (first | (with_reducible first | exact HB.out | apply below_alloc | apply pw_below_drewN | apply below_drew1) | exact HB.out)))); (case aL => have := LMc21.out; omega); intro v12 w22 ho hb hg hat; rw [← Ny11.out] at ho; have n0_ := Aside0.mk (Kd.Q_after (ok := (fun k_ => some k_ ≠ (.slice (some ad8) x1_1.length co19 : Value).ownBlock)) (by (with_reducible repeat (first | apply Kd.Q_alloc | apply Kd.Q_drewN | apply Kd.Q_drew)); exact HO_0.out) hg hat); have n1_ := Aside0.mk (Kd.Q_after (ok := (fun k_ => some k_ ≠ (.slice (some ad7) x0_1.length co18 : Value).ownBlock)) (by (with_reducible repeat (first | apply Kd.Q_alloc | apply Kd.Q_drewN | apply Kd.Q_drew)); exact HO_1.out) hg hat); have n2_ := Aside0.mk (hb); have n3_ := Aside0.mk (ho); clear HO_0; clear HO_1; clear HB; clear HO_5; have HO_0 := n0_; have HO_1 := n1_; have HB := n2_; have HO13 := n3_; clear n0_ n1_ n2_ n3_; clear ho hb hg hat))
           repeat (go_quiet (first | ((with_reducible refine gate_builtin (b := .append) (xs := #[.tmp 41, .tmp 45]) rfl ?_); (try (refine gate_guard (by rfl) ?_; dsimp only)); at_builtin; refine Kd.R_append k33 (w0 := w) w.heap.size rfl (.tmp 41) (.tmp 45) 24 33 (.agg #[(.int .u32 0), (.int .u32 0)]) 8 rfl Try.underlying24 info33 rfl (by decide) (by omega) u5 x5_1 (⟨ji15, ji16⟩ : S33) [.int .u32 ji15, .int .u32 ji16] (fun k_ => some k_ ≠ (.slice (some ad7) x0_1.length co18 : Value).ownBlock ∧ some k_ ≠ (.slice (some ad8) x1_1.length co19 : Value).ownBlock) (fun _ => False) rfl rfl ?aP (fun _ hk => hk.elim) ?aF ?aO ?aB ?aS ?aL ?_; (case aP => exact k33_mkM _ _ _ (⟨ji15, ji16⟩ : S33)); (case aB => exact (by repeat (first | (with_reducible first | exact HB.out | apply below_alloc | apply pw_below_drewN | apply below_drew1) | exact HB.out))); (case aF => exact (fun k_ hk => ⟨Kd.fresh' (Kd.Q_lt (by (with_reducible repeat (first | apply Kd.Q_alloc | apply Kd.Q_drewN | apply Kd.Q_drew)); exact HO_0.out)) k_ hk, Kd.fresh' (Kd.Q_lt (by (with_reducible repeat (first | apply Kd.Q_alloc | apply Kd.Q_drewN | apply Kd.Q_drew)); exact HO_1.out)) k_ hk⟩)); (case aO => exact (by (with_reducible repeat (first | apply Kd.R_alloc | apply Kd.R_drewN | apply Kd.R_drew)); exact HO_5.out)); (case aS => exact (below_size (by repeat (first | (with_reducible first | exact HB.out | apply below_alloc | apply pw_below_drewN | apply below_drew1) | exact HB.out)))); (case aL => have := LMc21.out; omega); intro v12 w22 ho hb hg hat; rw [← Ny11.out] at ho; have n0_ := Aside0.mk (Kd.Q_after (ok := (fun k_ => some k_ ≠ (.slice (some ad8) x1_1.length co19 : Value).ownBlock)) (by (with_reducible repeat (first | apply Kd.Q_alloc | apply Kd.Q_drewN | apply Kd.Q_drew)); exact HO_0.out) hg hat); have n1_ := Aside0.mk (Kd.Q_after (ok := (fun k_ => some k_ ≠ (.slice (some ad7) x0_1.length co18 : Value).ownBlock)) (by (with_reducible repeat (first | apply Kd.Q_alloc | apply Kd.Q_drewN | apply Kd.Q_drew)); exact HO_1.out) hg hat); have n2_ := Aside0.mk (hb); have n3_ := Aside0.mk (ho); clear HO_0; clear HO_1; clear HB; clear HO_5; have HO_0 := n0_; have HO_1 := n1_; have HB := n2_; have HO13 := n3_; clear n0_ n1_ n2_ n3_; clear ho hb hg hat)); try go_wp2_with (first | go_step3 | ((with_reducible refine gate_builtin (b := .append) (xs := #[.tmp 41, .tmp 45]) rfl ?_); (try (refine gate_guard (by rfl) ?_; dsimp only)); at_builtin; refine Kd.R_append k33 (w0 := w) w.heap.size rfl (.tmp 41) (.tmp 45) 24 33 (.agg #[(.int .u32 0), (.int .u32 0)]) 8 rfl Try.underlying24 info33 rfl (by decide) (by omega) u5 x5_1 (⟨ji15, ji16⟩ : S33) [.int .u32 ji15, .int .u32 ji16] (fun k_ => some k_ ≠ (.slice (some ad7) x0_1.length co18 : Value).ownBlock ∧ some k_ ≠ (.slice (some ad8) x1_1.length co19 : Value).ownBlock) (fun _ => False) rfl rfl ?aP (fun _ hk => hk.elim) ?aF ?aO ?aB ?aS ?aL ?_; (case aP => exact k33_mkM _ _ _ (⟨ji15, ji16⟩ : S33)); (case aB => exact (by repeat (first | (with_reducible first | exact HB.out | apply below_alloc | apply pw_below_drewN | apply below_drew1) | exact HB.out))); (case aF => exact (fun k_ hk => ⟨Kd.fresh' (Kd.Q_lt (by (with_reducible repeat (first | apply Kd.Q_alloc | apply Kd.Q_drewN | apply Kd.Q_drew)); exact HO_0.out)) k_ hk, Kd.fresh' (Kd.Q_lt (by (with_reducible repeat (first | apply Kd.Q_alloc | apply Kd.Q_drewN | apply Kd.Q_drew)); exact HO_1.out)) k_ hk⟩)); (case aO => exact (by (with_reducible repeat (first | apply Kd.R_alloc | apply Kd.R_drewN | apply Kd.R_drew)); exact HO_5.out)); (case aS => exact (below_size (by repeat (first | (with_reducible first | exact HB.out | apply below_alloc | apply pw_below_drewN | apply below_drew1) | exact HB.out)))); (case aL => have := LMc21.out; omega); intro v12 w22 ho hb hg hat; rw [← Ny11.out] at ho; have n0_ := Aside0.mk (Kd.Q_after (ok := (fun k_ => some k_ ≠ (.slice (some ad8) x1_1.length co19 : Value).ownBlock)) (by (with_reducible repeat (first | apply Kd.Q_alloc | apply Kd.Q_drewN | apply Kd.Q_drew)); exact HO_0.out) hg hat); have n1_ := Aside0.mk (Kd.Q_after (ok := (fun k_ => some k_ ≠ (.slice (some ad7) x0_1.length co18 : Value).ownBlock)) (by (with_reducible repeat (first | apply Kd.Q_alloc | apply Kd.Q_drewN | apply Kd.Q_drew)); exact HO_1.out) hg hat); have n2_ := Aside0.mk (hb); have n3_ := Aside0.mk (ho); clear HO_0; clear HO_1; clear HB; clear HO_5; have HO_0 := n0_; have HO_1 := n1_; have HB := n2_; have HO13 := n3_; clear n0_ n1_ n2_ n3_; clear ho hb hg hat)))
           go_meet
           case rel => exact ⟨_, (y11), H', ⟨by have := HK1.out; have := HJ6.out; first | omega | exact Nat.le_refl _⟩, ⟨by (with_reducible repeat (first | apply Kd.Q_alloc | apply Kd.Q_drewN | apply Kd.Q_drew)); exact HO_0.out⟩, ⟨by (with_reducible repeat (first | apply Kd.Q_alloc | apply Kd.Q_drewN | apply Kd.Q_drew)); exact HO_1.out⟩, ⟨by (with_reducible repeat (first | apply Kd.R_alloc | apply Kd.R_drewN | apply Kd.R_drew)); exact HO13.out⟩, ⟨by repeat (first | (with_reducible first | exact HB.out | apply below_alloc | apply pw_below_drewN | apply below_drew1) | exact HB.out)⟩⟩
          ·
           rw [if_neg c21] at H
           exact absurd H (by simp)
         ·
          rw [if_neg c20] at H
          have c20b0 : decide ((ji15) ≤ (ji16)) = false := decide_eq_false c20
          clear c20
          (first | rw [c20b0] | (simp only [i64_w, i32_w, IntKind.wrap_u32]; rw [c20b0]) | skip)
          have H' := Aside0.mk H
          clear H
          go_wp2
          repeat (go_quiet (fail); try go_wp2)
          go_meet
          case rel => exact ⟨_, (x5_1), H', ⟨by have := HK1.out; have := HJ6.out; first | omega | exact Nat.le_refl _⟩, ⟨by (with_reducible repeat (first | apply Kd.Q_alloc | apply Kd.Q_drewN | apply Kd.Q_drew)); exact HO_0.out⟩, ⟨by (with_reducible repeat (first | apply Kd.Q_alloc | apply Kd.Q_drewN | apply Kd.Q_drew)); exact HO_1.out⟩, ⟨by (with_reducible repeat (first | apply Kd.R_alloc | apply Kd.R_drewN | apply Kd.R_drew)); exact HO_5.out⟩, ⟨by repeat (first | (with_reducible first | exact HB.out | apply below_alloc | apply pw_below_drewN | apply below_drew1) | exact HB.out)⟩⟩
        case rest =>
         clear HC17
         try clear c1
         try clear p1
         try clear q1
         try clear hx1
         try clear qi1
         try clear c2
         try clear p2
         try clear p7
         try clear q7
         try clear hx7
         try clear qi7
         try clear c8
         try clear c8b0
         try clear c8b1
         try clear p8
         try clear q8
         try clear hx8
         try clear qi8
         try clear p9
         try clear q9
         try clear hx9
         try clear qi9
         try clear p10
         try clear q10
         try clear hx10
         try clear qi10
         try clear c12
         try clear c13
         try clear c13b0
         try clear c13b1
         try clear c14
         try clear c14b0
         try clear c14b1
         try clear c18
         try clear c20
         try clear c20b0
         try clear c21
         try clear hx10_0
         try clear hx10_1
         try clear hx7_0
         try clear hx7_1
         try clear hx8_0
         try clear hx8_1
         try clear hx9_0
         try clear hx9_1
         try clear p10
         try clear p2
         try clear p7
         try clear p8
         try clear p9
         try clear q10
         try clear q7
         try clear q8
         try clear q9
         obtain ⟨kq, x5_16, HA, HJ16, HO_0, HO_1, HO_5, HB⟩ := hcut
         cases kq with
         | zero => exact absurd HA.out (by simp [q14z.j2])
         | succ kj16 =>
          have H := HA.out
          clear HA
          simp only [q14z.j2] at H
          by_cases c23 : ji16 = 4294967295
          ·
           rw [if_pos c23] at H
           have c23b0 : (ji16 == 4294967295) = true := beq_iff_eq.mpr c23
           have c23b1 : (ji16 != 4294967295) = false := bne_eq_false_iff_eq.mpr c23
           clear c23
           obtain rfl := Option.some.inj H
           go_wp2
           repeat (go_quiet (fail); try go_wp2)
           (try rw [Exit.noGoto_ret])
           go_ret
           exact ⟨_, by first | rfl | (simp [errW_none, errW_some] <;> rfl) | (simp only [← hji15, ← hji16]; first | rfl | (simp [errW_none, errW_some] <;> rfl)) | (simp [*, errW_none, errW_some] <;> rfl), by (with_reducible repeat (first | apply Kd.R_alloc | apply Kd.R_drewN | apply Kd.R_drew)); exact Kd.R_mono HO_5.out (fun _ hk => trivial), by repeat (first | (with_reducible first | exact HB.out | apply below_alloc | apply pw_below_drewN | apply below_drew1) | exact HB.out)⟩
          ·
           rw [if_neg c23] at H
           have c23b0 : (ji16 == 4294967295) = false := beq_eq_false_iff_ne.mpr c23
           have c23b1 : (ji16 != 4294967295) = true := bne_iff_ne.mpr c23
           by_cases c24 : 0 < (x0_1.length : Int)
           ·
            rw [if_pos c24] at H
            have c24b0 : decide (0 < (x0_1.length : Int)) = true := decide_eq_true c24
            have c24b1 : decide (0 < x0_1.length) = true := decide_eq_true (by omega)
            clear c24
            by_cases c25 : ((rd_T33 x0_1 0).f1) = ji16
            ·
             rw [if_pos c25] at H
             have c25b0 : (((rd_T33 x0_1 0).f1) == ji16) = true := beq_iff_eq.mpr c25
             have c25b1 : (((rd_T33 x0_1 0).f1) != ji16) = false := bne_eq_false_iff_eq.mpr c25
             clear c25
             by_cases c26 : 1 ≤ (x0_1.length : Int)
             ·
              rw [if_pos c26] at H
              have c26b0 := eq_true c26
              have c26b1 : decide (1 ≤ (x0_1.length : Int)) = true := decide_eq_true c26
              clear c26
              obtain ⟨y15, hy15⟩ : ∃ y_ : List (S33), y_ = (x0_1.drop (1 : Int).toNat) := ⟨_, rfl⟩
              replace H : (q14z.l0 kj16 y15 x1_1 x5_16) = some r := by first | (rw [hy15]; with_reducible exact H) | (have H2_ := (Option.bind_some _ _).symm.trans H; rw [hy15]; with_reducible exact H2_) | (have H2_ := (Option.bind_some _ _).symm.trans H; with_reducible exact H2_) | with_reducible exact H | (rw [hy15]; exact H) | exact H
              have Ny15 := Aside0.mk hy15
              clear hy15
              have H' := Aside0.mk H
              clear H
              have p14 : 0 ≤ (0 : Int) := (by omega)
              have q14 : 0 < (x0_1.length : Int) := of_decide_eq_true (by first | (with_reducible assumption) | assumption)
              obtain ⟨ad14, e14, hx14_0, hx14_1⟩ := at_T33 (Kd.Q_reads' HO_0.out).2.2 0 p14 q14
              obtain rfl : ad7 = ad14 := (by injection e14)
              have qi14 : (0 < x0_1.length) = True := eq_true (by omega)
              (try rw [show ((0 : Int)).toNat = 0 from rfl] at hx14_0)
              (try rw [show 0 * 2 = 0 from rfl] at hx14_0)
              (try rw [Addr.add_zero'] at hx14_0)
              (try rw [show ((0 : Int)).toNat = 0 from rfl] at hx14_1)
              (try rw [show 0 * 2 = 0 from rfl] at hx14_1)
              (try rw [Addr.add_zero'] at hx14_1)
              replace p14 := eq_true p14
              replace q14 := eq_true q14
              have q27 : (1 : Int) ≤ ((x0_1.length : Int) : Int) := of_decide_eq_true (by first | (with_reducible assumption) | assumption)
              obtain ⟨i027, hi027, _, hsz27, _⟩ := info_parts info33
              have hcut27 := cut_from (P := Try.prog) 24 33 .i64 Try.underlying24 hi027 2 hsz27 (some ad7) x0_1.length co18 1 (by omega) q27
              have hr27 := Kd.Q_drop (k := (1 : Int).toNat) HO_0.out (by omega)
              obtain ⟨A27, hA27⟩ : ∃ A1, A1 = (if co18 = (1 : Int).toNat then (some ad7) else ((some ad7) : Option Addr).map (·.add ((1 : Int).toNat * 2))) := ⟨_, rfl⟩
              obtain ⟨c27, hc27⟩ : ∃ c1, c1 = co18 - (1 : Int).toNat := ⟨_, rfl⟩
              have hy27 : y15.length = x0_1.length - (1 : Int).toNat := (by rw [Ny15.out, List.length_drop])
              rw [← Ny15.out] at hr27
              rw [← hy27, ← hA27, ← hc27] at hcut27
              replace hr27 : Kd.Q k33 33 wc w.heap.size (fun k_ => some k_ ≠ (.slice (some ad8) x1_1.length co19 : Value).ownBlock ∧ some k_ ≠ (u5 : Value).ownBlock) (.slice A27 y15.length c27) y15 := (by rw [hA27, hc27, hy27]; exact hr27)
              have HE27 : Aside0 ((Value.slice A27 y15.length c27).ownBlock = (.slice (some ad7) x0_1.length co18 : Value).ownBlock) := ⟨by rw [hA27]; split <;> (cases ((some ad7) : Option Addr) <;> rfl)⟩
              clear hy27 hi027 hsz27 HO_0 hA27 hc27
              have HO17 := Aside0.mk hr27
              clear hr27
              replace q27 := eq_true q27
              have n_ := Aside0.mk (Kd.Q_mono (ok' := fun k_ => (some k_ ≠ (.slice A27 y15.length c27 : Value).ownBlock ∧ some k_ ≠ (u5 : Value).ownBlock)) HO_1.out (fun k_ hk => ⟨(by rw [HE27.out]; exact hk.1), hk.2⟩))
              clear HO_1
              have HO_1 := n_
              clear n_
              have n_ := Aside0.mk (Kd.R_mono (ok' := fun k_ => (some k_ ≠ (.slice A27 y15.length c27 : Value).ownBlock ∧ some k_ ≠ (.slice (some ad8) x1_1.length co19 : Value).ownBlock)) HO_5.out (fun k_ hk => ⟨(by rw [HE27.out]; exact hk.1), hk.2⟩))
              clear HO_5
              have HO_5 := n_
              clear n_
              go_wp2
              repeat (go_quiet (fail); try go_wp2)
              go_roundg kj16
              case measure => have := HK1.out; have := HJ6.out; have := HJ16.out; omega
              case rel => exact ⟨(y15), (x1_1), (x5_16), H', ⟨by have := HK1.out; have := HJ6.out; have := HJ16.out; omega⟩, ⟨by (with_reducible repeat (first | apply Kd.Q_alloc | apply Kd.Q_drewN | apply Kd.Q_drew)); exact HO17.out⟩, ⟨by (with_reducible repeat (first | apply Kd.Q_alloc | apply Kd.Q_drewN | apply Kd.Q_drew)); exact HO_1.out⟩, ⟨by (with_reducible repeat (first | apply Kd.R_alloc | apply Kd.R_drewN | apply Kd.R_drew)); exact HO_5.out⟩, ⟨by repeat (first | (with_reducible first | exact HB.out | apply below_alloc | apply pw_below_drewN | apply below_drew1) | exact HB.out)⟩⟩
             ·
              rw [if_neg c26] at H
              exact absurd H (by simp)
            ·
             rw [if_neg c25] at H
             have c25b0 : (((rd_T33 x0_1 0).f1) == ji16) = false := beq_eq_false_iff_ne.mpr c25
             have c25b1 : (((rd_T33 x0_1 0).f1) != ji16) = true := bne_iff_ne.mpr c25
             by_cases c28 : 1 ≤ (x1_1.length : Int)
             ·
              rw [if_pos c28] at H
              have c28b0 := eq_true c28
              have c28b1 : decide (1 ≤ (x1_1.length : Int)) = true := decide_eq_true c28
              clear c28
              obtain ⟨y18, hy18⟩ : ∃ y_ : List (S33), y_ = (x1_1.drop (1 : Int).toNat) := ⟨_, rfl⟩
              replace H : (q14z.l0 kj16 x0_1 y18 x5_16) = some r := by first | (rw [hy18]; with_reducible exact H) | (have H2_ := (Option.bind_some _ _).symm.trans H; rw [hy18]; with_reducible exact H2_) | (have H2_ := (Option.bind_some _ _).symm.trans H; with_reducible exact H2_) | with_reducible exact H | (rw [hy18]; exact H) | exact H
              have Ny18 := Aside0.mk hy18
              clear hy18
              have H' := Aside0.mk H
              clear H
              have p14 : 0 ≤ (0 : Int) := (by omega)
              have q14 : 0 < (x0_1.length : Int) := of_decide_eq_true (by first | (with_reducible assumption) | assumption)
              obtain ⟨ad14, e14, hx14_0, hx14_1⟩ := at_T33 (Kd.Q_reads' HO_0.out).2.2 0 p14 q14
              obtain rfl : ad7 = ad14 := (by injection e14)
              have qi14 : (0 < x0_1.length) = True := eq_true (by omega)
              (try rw [show ((0 : Int)).toNat = 0 from rfl] at hx14_0)
              (try rw [show 0 * 2 = 0 from rfl] at hx14_0)
              (try rw [Addr.add_zero'] at hx14_0)
              (try rw [show ((0 : Int)).toNat = 0 from rfl] at hx14_1)
              (try rw [show 0 * 2 = 0 from rfl] at hx14_1)
              (try rw [Addr.add_zero'] at hx14_1)
              replace p14 := eq_true p14
              replace q14 := eq_true q14
              have q29 : (1 : Int) ≤ ((x1_1.length : Int) : Int) := of_decide_eq_true (by first | (with_reducible assumption) | assumption)
              obtain ⟨i029, hi029, _, hsz29, _⟩ := info_parts info33
              have hcut29 := cut_from (P := Try.prog) 24 33 .i64 Try.underlying24 hi029 2 hsz29 (some ad8) x1_1.length co19 1 (by omega) q29
              have hr29 := Kd.Q_drop (k := (1 : Int).toNat) HO_1.out (by omega)
              obtain ⟨A29, hA29⟩ : ∃ A1, A1 = (if co19 = (1 : Int).toNat then (some ad8) else ((some ad8) : Option Addr).map (·.add ((1 : Int).toNat * 2))) := ⟨_, rfl⟩
              obtain ⟨c29, hc29⟩ : ∃ c1, c1 = co19 - (1 : Int).toNat := ⟨_, rfl⟩
              have hy29 : y18.length = x1_1.length - (1 : Int).toNat := (by rw [Ny18.out, List.length_drop])
              rw [← Ny18.out] at hr29
              rw [← hy29, ← hA29, ← hc29] at hcut29
              replace hr29 : Kd.Q k33 33 wc w.heap.size (fun k_ => some k_ ≠ (.slice (some ad7) x0_1.length co18 : Value).ownBlock ∧ some k_ ≠ (u5 : Value).ownBlock) (.slice A29 y18.length c29) y18 := (by rw [hA29, hc29, hy29]; exact hr29)
              have HE29 : Aside0 ((Value.slice A29 y18.length c29).ownBlock = (.slice (some ad8) x1_1.length co19 : Value).ownBlock) := ⟨by rw [hA29]; split <;> (cases ((some ad8) : Option Addr) <;> rfl)⟩
              clear hy29 hi029 hsz29 HO_1 hA29 hc29
              have HO20 := Aside0.mk hr29
              clear hr29
              replace q29 := eq_true q29
              have n_ := Aside0.mk (Kd.Q_mono (ok' := fun k_ => (some k_ ≠ (.slice A29 y18.length c29 : Value).ownBlock ∧ some k_ ≠ (u5 : Value).ownBlock)) HO_0.out (fun k_ hk => ⟨(by rw [HE29.out]; exact hk.1), hk.2⟩))
              clear HO_0
              have HO_0 := n_
              clear n_
              have n_ := Aside0.mk (Kd.R_mono (ok' := fun k_ => (some k_ ≠ (.slice (some ad7) x0_1.length co18 : Value).ownBlock ∧ some k_ ≠ (.slice A29 y18.length c29 : Value).ownBlock)) HO_5.out (fun k_ hk => ⟨hk.1, (by rw [HE29.out]; exact hk.2)⟩))
              clear HO_5
              have HO_5 := n_
              clear n_
              go_wp2
              repeat (go_quiet (fail); try go_wp2)
              go_roundg kj16
              case measure => have := HK1.out; have := HJ6.out; have := HJ16.out; omega
              case rel => exact ⟨(x0_1), (y18), (x5_16), H', ⟨by have := HK1.out; have := HJ6.out; have := HJ16.out; omega⟩, ⟨by (with_reducible repeat (first | apply Kd.Q_alloc | apply Kd.Q_drewN | apply Kd.Q_drew)); exact HO_0.out⟩, ⟨by (with_reducible repeat (first | apply Kd.Q_alloc | apply Kd.Q_drewN | apply Kd.Q_drew)); exact HO20.out⟩, ⟨by (with_reducible repeat (first | apply Kd.R_alloc | apply Kd.R_drewN | apply Kd.R_drew)); exact HO_5.out⟩, ⟨by repeat (first | (with_reducible first | exact HB.out | apply below_alloc | apply pw_below_drewN | apply below_drew1) | exact HB.out)⟩⟩
             ·
              rw [if_neg c28] at H
              exact absurd H (by simp)
           ·
            rw [if_neg c24] at H
            exact absurd H (by simp)
       ·
        rw [if_neg c14] at H
        exact absurd H (by simp)
      ·
       rw [if_neg c13] at H
       exact absurd H (by simp)
     ·
      replace c12 := Bool.eq_false_iff.mpr c12
      subst c12
      have H1 : (some x5_1) = some r := by rw [if_neg (show ¬ (false = true) by decide)] at H; exact H
      clear H
      have H := H1
      clear H1
      obtain rfl := Option.some.inj H
      go_wp2
      repeat (go_quiet (fail); try go_wp2)
      (try rw [Exit.noGoto_ret])
      go_ret
      exact ⟨_, by first | rfl | (simp [errW_none, errW_some] <;> rfl) | (simp [*, errW_none, errW_some] <;> rfl), by (with_reducible repeat (first | apply Kd.R_alloc | apply Kd.R_drewN | apply Kd.R_drew)); exact Kd.R_mono HO_5.out (fun _ hk => trivial), by repeat (first | (with_reducible first | exact HB.out | apply below_alloc | apply pw_below_drewN | apply below_drew1) | exact HB.out)⟩

end Go.Proofs.Ytconaifcjnpabaa.P

namespace Go.Proofs.Ytconaifcjnpabaa.P
open Go.RowKit Go.Proofs.YtconaifcjnpabaaW.PrintWords Go.Proofs.YtconaifcjnpabaaW.PrintMore
set_option linter.unusedVariables false
set_option linter.unusedSimpArgs false
/-! ### Set -/
/-! ### Meet -/
def meetL : Nat → List S33 → List S33 → List S33
  | f + 1, x :: a, y :: b => (if mx x.f0 y.f0 ≤ mn x.f1 y.f1 then [⟨mx x.f0 y.f0, mn x.f1 y.f1⟩] else []) ++ (if mn x.f1 y.f1 = 4294967295 then [] else if x.f1 = mn x.f1 y.f1 then meetL f a (y :: b) else meetL f (x :: a) b)
  | _, _, _ => []
theorem meetL_low : ∀ (f : Nat) (a b : List S33) (c : Int), (∀ s ∈ a, c ≤ s.f0) ∨ (∀ s ∈ b, c ≤ s.f0) → ∀ z ∈ meetL f a b, c ≤ z.f0
  | 0, a, b, c, _, z, hz => by simp [meetL] at hz
  | f + 1, [], b, c, _, z, hz => by simp [meetL] at hz
  | f + 1, x :: a, [], c, _, z, hz => by simp [meetL] at hz
  | f + 1, x :: a, y :: b, c, h, z, hz => by
    rw [meetL] at hz
    rcases List.mem_append.1 hz with hz | hz
    · split at hz
      · rw [List.mem_singleton.1 hz]
        show c ≤ mx x.f0 y.f0
        unfold mx
        rcases h with h | h
        · have := h x List.mem_cons_self; split <;> omega
        · have := h y List.mem_cons_self; split <;> omega
      · simp at hz
    · split at hz
      · simp at hz
      · split at hz
        · exact meetL_low f a (y :: b) c (h.imp (fun h s hs => h s (List.mem_cons_of_mem _ hs)) id) z hz
        · exact meetL_low f (x :: a) b c (h.imp id (fun h s hs => h s (List.mem_cons_of_mem _ hs))) z hz
theorem InS_above {l : List S33} {c n : Int} (h : ∀ s ∈ l, c < s.f0) (hn : n ≤ c) : InS l n = false := by
  cases hq : InS l n with
  | false => rfl
  | true =>
    obtain ⟨s, hs, hs0, _⟩ := (InS_iff _ _).1 hq
    have := h s hs
    omega
theorem meetL_nf : ∀ (f : Nat) (a b : List S33), a.length + b.length ≤ f → NF a → NF b → NF (meetL f a b) ∧ ∀ n, InS (meetL f a b) n = (InS a n && InS b n)
  | f, [], b, _, _, _ => by
    have : meetL f [] b = [] := by cases f <;> rfl
    rw [this]
    exact ⟨NF_nil, fun n => by simp [InS]⟩
  | f, x :: a, [], _, _, _ => by
    have : meetL f (x :: a) [] = [] := by cases f <;> rfl
    rw [this]
    exact ⟨NF_nil, fun n => by simp [InS]⟩
  | 0, x :: a, y :: b, h, _, _ => by simp at h
  | f + 1, x :: a, y :: b, h, ha, hb => by
    obtain ⟨hx, hxa, ha'⟩ := NF_cons.1 ha
    obtain ⟨hy, hyb, hb'⟩ := NF_cons.1 hb
    unfold Ok at hx hy
    have hmx : mx x.f0 y.f0 = x.f0 ∧ y.f0 ≤ x.f0 ∨ mx x.f0 y.f0 = y.f0 ∧ x.f0 < y.f0 := by unfold mx; split <;> omega
    have hmn : mn x.f1 y.f1 = x.f1 ∧ x.f1 ≤ y.f1 ∨ mn x.f1 y.f1 = y.f1 ∧ y.f1 < x.f1 := by unfold mn; split <;> omega
    rw [meetL]
    generalize mx x.f0 y.f0 = lo at hmx ⊢
    generalize mn x.f1 y.f1 = hi at hmn ⊢
    have hbox : ∀ (n : Int), InS (if lo ≤ hi then [(⟨lo, hi⟩ : S33)] else []) n = (inSpan n x && inSpan n y) := fun n => by
      rw [Bool.eq_iff_iff, Bool.and_eq_true, inSpan_iff, inSpan_iff]
      split
      · simp only [InS, List.any_cons, List.any_nil, Bool.or_false, inSpan_iff]
        omega
      · simp only [InS, List.any_nil]
        constructor
        · intro h; cases h
        · intro h; omega
    have hcons : ∀ (r : List S33), NF r → (∀ z ∈ r, hi + 1 < z.f0) → NF ((if lo ≤ hi then [(⟨lo, hi⟩ : S33)] else []) ++ r) := fun r h1 h2 => by
      split
      · exact NF_cons.2 ⟨⟨by show 0 ≤ lo; omega, by assumption, by show hi ≤ 4294967295; omega⟩, h2, h1⟩
      · exact h1
    have hin : ∀ n, (InS (x :: a) n && InS (y :: b) n) = ((inSpan n x && inSpan n y) || ((InS a n && InS (y :: b) n) || (InS (x :: a) n && InS b n))) := fun n => by
      rw [InS_cons, InS_cons]
      cases inSpan n x <;> cases inSpan n y <;> cases InS a n <;> cases InS b n <;> rfl
    by_cases hM : hi = 4294967295
    · rw [if_pos hM]
      refine ⟨hcons [] NF_nil (fun z hz => (List.not_mem_nil hz).elim), fun n => ?_⟩
      have e1 : a = [] := by
        cases a with
        | nil => rfl
        | cons z a => have h1 := hxa z List.mem_cons_self; have h2 := (NF_cons.1 ha').1; unfold Ok at h2; omega
      have e2 : b = [] := by
        cases b with
        | nil => rfl
        | cons z b => have h1 := hyb z List.mem_cons_self; have h2 := (NF_cons.1 hb').1; unfold Ok at h2; omega
      subst e1 e2
      rw [List.append_nil, hbox, hin]
      simp [InS]
    · rw [if_neg hM]
      by_cases hc : x.f1 = hi
      · rw [if_pos hc]
        obtain ⟨k1, k2⟩ := meetL_nf f a (y :: b) (by simp at h ⊢; omega) ha' hb
        refine ⟨hcons _ k1 (fun z hz => by have := meetL_low f a (y :: b) (x.f1 + 2) (.inl (fun s hs => by have := hxa s hs; omega)) z hz; omega), fun n => ?_⟩
        rw [InS_append, hbox, k2, hin]
        congr 1
        by_cases hn : n ≤ x.f1
        · rw [InS_above (c := y.f1 + 1) (n := n) hyb (by omega), Bool.and_false, Bool.or_false]
        · have : inSpan n x = false := by rw [Bool.eq_false_iff]; intro h; rw [inSpan_iff] at h; omega
          rw [InS_cons x a, this, Bool.false_or, InS_cons y b]
          cases InS a n <;> cases inSpan n y <;> cases InS b n <;> rfl
      · rw [if_neg hc]
        obtain ⟨k1, k2⟩ := meetL_nf f (x :: a) b (by simp at h ⊢; omega) ha hb'
        refine ⟨hcons _ k1 (fun z hz => by have := meetL_low f (x :: a) b (y.f1 + 2) (.inr (fun s hs => by have := hyb s hs; omega)) z hz; omega), fun n => ?_⟩
        rw [InS_append, hbox, k2, hin]
        congr 1
        by_cases hn : n ≤ y.f1
        · rw [InS_above (c := x.f1 + 1) (n := n) hxa (by omega), Bool.false_and, Bool.false_or]
        · have : inSpan n y = false := by rw [Bool.eq_false_iff]; intro h; rw [inSpan_iff] at h; omega
          rw [InS_cons y b, this, Bool.false_or, InS_cons x a]
          cases InS a n <;> cases inSpan n x <;> cases InS b n <;> rfl
theorem meetL_length : ∀ (f : Nat) (a b : List S33), (meetL f a b).length ≤ a.length + b.length
  | 0, a, b => by simp [meetL]
  | f + 1, [], b => by simp [meetL]
  | f + 1, x :: a, [] => by simp [meetL]
  | f + 1, x :: a, y :: b => by
    have h1 := meetL_length f a (y :: b)
    have h2 := meetL_length f (x :: a) b
    rw [meetL, List.length_append]
    simp only [List.length_cons] at h1 h2 ⊢
    split <;> split <;> (try split) <;> simp <;> omega
theorem meet_l0 : ∀ (f : Nat) (a b out : List S33), a.length + b.length ≤ f → out.length + a.length + b.length ≤ 4000000 → Ev (fun k => q14z.l0 k a b out) (out ++ meetL f a b)
  | f, [], b, out, _, _ => by
    have : meetL f [] b = [] := by cases f <;> rfl
    rw [this, List.append_nil]
    refine Ev.step (fun k => ?_) (Ev.step (f := fun _ => some out) (g := fun k => q14z.j1 k [] b out false) (fun k => ?_) (Ev.now out))
    · simp only [q14z.l0]
      rw [if_neg (by simp)]
    · simp only [q14z.j1]
      rw [if_neg (by simp)]
  | f, x :: a, [], out, _, _ => by
    have : meetL f (x :: a) [] = [] := by cases f <;> rfl
    rw [this, List.append_nil]
    refine Ev.step (fun k => ?_) (Ev.step (f := fun _ => some out) (g := fun k => q14z.j1 k (x :: a) [] out false) (fun k => ?_) (Ev.now out))
    · simp only [q14z.l0]
      rw [if_pos (by simp only [List.length_cons]; omega)]
      rfl
    · simp only [q14z.j1]
      rw [if_neg (by simp)]
  | 0, x :: a, y :: b, out, h, _ => by simp at h
  | f + 1, x :: a, y :: b, out, h, ho => by
    have rx : rd_T33 (x :: a) 0 = x := rfl
    have ry : rd_T33 (y :: b) 0 = y := rfl
    have lx : (0 : Int) < ((x :: a).length : Int) := by simp only [List.length_cons]; omega
    have ly : (0 : Int) < ((y :: b).length : Int) := by simp only [List.length_cons]; omega
    have dx : (x :: a).drop (1 : Int).toNat = a := rfl
    have dy : (y :: b).drop (1 : Int).toNat = b := rfl
    simp only [List.length_cons] at h ho
    rw [meetL, ← List.append_assoc]
    have hj : ∀ o : List S33, o.length ≤ out.length + 1 → Ev (fun k => q14z.j2 k (x :: a) (y :: b) o (mn x.f1 y.f1)) (o ++ (if mn x.f1 y.f1 = 4294967295 then [] else if x.f1 = mn x.f1 y.f1 then meetL f a (y :: b) else meetL f (x :: a) b)) := fun o hoo => by
      by_cases hM : mn x.f1 y.f1 = 4294967295
      · rw [if_pos hM, List.append_nil]
        refine Ev.step (f := fun _ => some o) (fun k => ?_) (Ev.now o)
        simp only [q14z.j2]
        rw [if_pos hM]
      · rw [if_neg hM]
        by_cases hc : x.f1 = mn x.f1 y.f1
        · rw [if_pos hc]
          refine Ev.step (fun k => ?_) (meet_l0 f a (y :: b) o (by simp only [List.length_cons]; omega) (by simp only [List.length_cons]; omega))
          simp only [q14z.j2]
          rw [if_neg hM, if_pos lx, rx, if_pos hc, if_pos (by omega), dx]
        · rw [if_neg hc]
          refine Ev.step (fun k => ?_) (meet_l0 f (x :: a) b o (by simp only [List.length_cons]; omega) (by simp only [List.length_cons]; omega))
          simp only [q14z.j2]
          rw [if_neg hM, if_pos lx, rx, if_neg hc, if_pos (by omega), dy]
    refine Ev.step (f := fun k => q14z.j1 k (x :: a) (y :: b) out true) (fun k => ?_) ?_
    · simp only [q14z.l0]
      rw [if_pos (by omega), decide_eq_true (show ((y :: b).length : Int) > 0 from ly)]
    · by_cases hl : mx x.f0 y.f0 ≤ mn x.f1 y.f1
      · rw [if_pos hl]
        refine Ev.step (fun k => ?_) (hj (out ++ [⟨mx x.f0 y.f0, mn x.f1 y.f1⟩]) (by simp))
        simp only [q14z.j1]
        rw [if_pos trivial, if_pos lx, if_pos ly, rx, ry, if_pos hl, if_pos (by omega)]
      · rw [if_neg hl, List.append_nil]
        refine Ev.step (fun k => ?_) (hj out (by omega))
        simp only [q14z.j1]
        rw [if_pos trivial, if_pos lx, if_pos ly, rx, ry, if_neg hl]
theorem meet_ev (a b : List S33) (hal : a.length ≤ 1000000) (hbl : b.length ≤ 1000000) (ha : Rng a) (hb : Rng b) : ∃ r, Ev (fun k => q14z.f k a b) r ∧ NF r ∧ (∀ n, InS r n = (InS a n && InS b n)) ∧ r.length ≤ a.length + b.length := by
  obtain ⟨t, h1, h2, h3, h4⟩ := norm_ev a hal ha
  obtain ⟨u, k1, k2, k3, k4⟩ := norm_ev b hbl hb
  obtain ⟨p1, p2⟩ := meetL_nf (t.length + u.length) t u (Nat.le_refl _) h2 k2
  refine ⟨meetL (t.length + u.length) t u, ?_, p1, fun n => by rw [p2, h3, k3], Nat.le_trans (meetL_length _ t u) (by omega)⟩
  refine Ev.bind h1 (f := fun k t => (q2z.f k b).bind fun u => q14z.l0 k t u []) (Ev.bind k1 (f := fun k u => q14z.l0 k t u []) ?_)
  have := meet_l0 (t.length + u.length) t u [] (Nat.le_refl _) (by simp only [List.length_nil]; omega)
  rwa [List.nil_append] at this
/-! ### Union -/
end Go.Proofs.Ytconaifcjnpabaa.P

namespace Go.Proofs.Ytconaifcjnpabaa.P
open Go.RowKit Go.Proofs.YtconaifcjnpabaaW.PrintWords Go.Proofs.YtconaifcjnpabaaW.PrintMore
set_option linter.unusedVariables false
set_option linter.unusedSimpArgs false
/-! What span.Atoms and the document's Atoms compute. -/
def Sets (L : List (List S33)) : Prop := L.length ≤ 1000 ∧ ∀ l ∈ L, Rng l ∧ l.length ≤ 200
theorem patoms_l1 (L : List (List S33)) (x13 : Int) (t : List S33) (ht : t.length ≤ 1000000) (hn : NF t) (res : List S33) : ∀ (d i : Nat) (acc : List Int), i + d = t.length → acc.length + 2 * d ≤ 4000000 →
    Ev (fun k => q3z.l0 k (acc ++ cutsN (t.drop i)) L (L.length : Int) (wrap64 (x13 + 1))) res → Ev (fun k => q3z.l1 k acc L (L.length : Int) x13 t (t.length : Int) (i : Int)) res
  | 0, i, acc, hi, hb, h => by
    rw [List.drop_eq_nil_of_le (by omega)] at h
    rw [show cutsN [] = [] from rfl, List.append_nil] at h
    refine Ev.step (fun k => ?_) h
    simp only [q3z.l1]
    rw [if_neg (by omega)]
  | d + 1, i, acc, hi, hb, h => by
    have hil : i < t.length := by omega
    rw [List.drop_eq_getElem_cons hil] at h
    have hok := hn.1 t[i] (List.getElem_mem hil)
    unfold Ok at hok
    have hrd : rd_T33 t (i : Int) = t[i] := rdS t i hil
    generalize t[i] = s at hrd hok h
    by_cases hl : s.f1 < 4294967295
    · have h' : Ev (fun k => q3z.l0 k ((acc ++ [s.f0, s.f1 + 1]) ++ cutsN (t.drop (i + 1))) L (L.length : Int) (wrap64 (x13 + 1))) res := by
        rw [List.append_assoc]
        rw [cutsN, if_pos hl] at h
        exact h
      refine Ev.step (fun k => ?_) (patoms_l1 L x13 t ht hn res d (i + 1) _ (by omega) (by simp; omega) h')
      simp only [q3z.l1]
      rw [if_pos (by omega), if_pos (by omega), if_pos (by omega), if_pos (by omega), Option.bind_some, hrd, if_pos hl, if_pos (by simp; omega), wr1 i (by omega), List.append_assoc, show (s.f1 + 1) % 4294967296 = s.f1 + 1 by omega]
      rfl
    · have h' : Ev (fun k => q3z.l0 k ((acc ++ [s.f0]) ++ cutsN (t.drop (i + 1))) L (L.length : Int) (wrap64 (x13 + 1))) res := by
        rw [List.append_assoc]
        rw [cutsN, if_neg hl] at h
        exact h
      refine Ev.step (fun k => ?_) (patoms_l1 L x13 t ht hn res d (i + 1) _ (by omega) (by simp; omega) h')
      simp only [q3z.l1]
      rw [if_pos (by omega), if_pos (by omega), if_pos (by omega), if_pos (by omega), Option.bind_some, hrd, if_neg hl, wr1 i (by omega)]
theorem patoms_l0 (L : List (List S33)) (hS : Sets L) : ∀ (d i : Nat) (acc : List Int), i + d = L.length → acc.length + 400 * d ≤ 2000000 →
    ∃ cs : List Int, cs.length ≤ 400 * d ∧ (∀ x, 0 < x → x ≤ 4294967295 → (x ∈ cs ↔ Turn (L.drop i) x)) ∧ (∀ x ∈ cs, 0 ≤ x ∧ x ≤ 4294967295) ∧
      ∀ res, Ev (fun k => q3z.l0 k (acc ++ cs) L (L.length : Int) (L.length : Int)) res → Ev (fun k => q3z.l0 k acc L (L.length : Int) (i : Int)) res
  | 0, i, acc, hi, hb => by
    refine ⟨[], by simp, fun x _ _ => ?_, by simp, fun res h => ?_⟩
    · rw [List.drop_eq_nil_of_le (by omega)]
      simp [Turn]
    · rw [List.append_nil] at h
      have e : i = L.length := by omega
      rw [e]; exact h
  | d + 1, i, acc, hi, hb => by
    have hil : i < L.length := by omega
    have hl := hS.2 L[i] (List.getElem_mem hil)
    have hL := hS.1
    obtain ⟨t, h1, h2, h3, h4⟩ := norm_ev L[i] (by omega) hl.1
    have hcl := cutsN_len t
    obtain ⟨cs, c1, c2, c3, c4⟩ := patoms_l0 L hS d (i + 1) (acc ++ cutsN t) (by omega) (by simp; omega)
    refine ⟨cutsN t ++ cs, by simp; omega, fun x x0 x1 => ?_, fun x hx => ?_, fun res h => ?_⟩
    · rw [List.mem_append, nf_turn h2 x x0 x1, c2 x x0 x1, List.drop_eq_getElem_cons hil, h3, h3]
      unfold Turn
      constructor
      · rintro (q | ⟨l, q1, q2⟩)
        · exact ⟨_, List.mem_cons_self, q⟩
        · exact ⟨l, List.mem_cons_of_mem _ q1, q2⟩
      · rintro ⟨l, q1, q2⟩
        rcases List.mem_cons.1 q1 with rfl | q1
        · exact .inl q2
        · exact .inr ⟨l, q1, q2⟩
    · rcases List.mem_append.1 hx with q | q
      · obtain ⟨s, hs, q⟩ := (mem_cutsN t x).1 q
        have := h2.1 s hs
        unfold Ok at this
        omega
      · exact c3 x q
    · rw [← List.append_assoc] at h
      have h5 := c4 res h
      refine Ev.step (fun k => ?_) (Ev.bind h1 (f := fun k t => q3z.l1 k acc L (L.length : Int) (i : Int) t (t.length : Int) 0) (patoms_l1 L (i : Int) t (by omega) h2 res t.length 0 acc (by omega) (by omega) (by
        rw [List.drop_zero, wr1 i (by omega)]
        exact h5)))
      simp only [q3z.l0]
      rw [if_pos (by omega), if_pos (by omega), if_pos (by omega), rdL L i hil]
theorem patoms_l2 (C : List Int) (hC : C.length ≤ 2000000) (hr : ∀ x ∈ C, 0 < x ∧ x ≤ 4294967295) : ∀ (d i : Nat) (pre : List S33) (f : Int), i + d = C.length → pre.length ≤ i →
    Ev (fun k => q3z.l2 k (pre ++ [⟨f, 4294967295⟩]) C (C.length : Int) (i : Int)) (pre ++ atomsOf f (C.drop i))
  | 0, i, pre, f, hi, hp => by
    rw [List.drop_eq_nil_of_le (by omega)]
    refine Ev.step (f := fun _ => some (pre ++ [⟨f, 4294967295⟩])) (fun k => ?_) (Ev.now _)
    simp only [q3z.l2]
    rw [if_neg (by omega)]
  | d + 1, i, pre, f, hi, hp => by
    have hil : i < C.length := by omega
    have hci := hr C[i] (List.getElem_mem hil)
    have hrd : rd C (i : Int) = C[i] := rdI C i hil
    rw [List.drop_eq_getElem_cons hil]
    generalize C[i] = c at hrd hci
    have ih := patoms_l2 C hC hr d (i + 1) (pre ++ [⟨f, c - 1⟩]) c (by omega) (by simp; omega)
    rw [show (pre ++ [(⟨f, c - 1⟩ : S33)]) ++ atomsOf c (C.drop (i + 1)) = pre ++ atomsOf f (c :: C.drop (i + 1)) by rw [List.append_assoc]; rfl] at ih
    have hlen : ((pre ++ [(⟨f, 4294967295⟩ : S33)]).length : Int) = ((pre.length + 1 : Nat) : Int) := by simp
    have hw : wrap64 (((pre.length + 1 : Nat) : Int) - 1) = (pre.length : Int) := by rw [wr2 _ (by omega) (by omega)]; simp
    have hrs : rd_T33 (pre ++ [(⟨f, 4294967295⟩ : S33)]) (pre.length : Int) = ⟨f, 4294967295⟩ := by
      rw [rdS _ _ (by simp)]
      simp
    refine Ev.step (fun k => ?_) ih
    simp only [q3z.l2]
    rw [if_pos (by omega), if_pos (by omega), if_pos (by omega), hrd, hlen, hw, if_pos (by omega), if_pos (by omega), hrs, Int.toNat_natCast, set_last, Option.bind_some, if_pos (by simp; omega), wr1 i (by omega), show (c - 1) % 4294967296 = c - 1 by omega]
theorem patoms_ev (L : List (List S33)) (hS : Sets L) : ∃ C, Ev (fun k => q3z.f k L) (atomsOf 0 C) ∧ Turns L C ∧ C.length ≤ 400000 := by
  obtain ⟨cs, c1, c2, c3, c4⟩ := patoms_l0 L hS L.length 0 [] (by omega) (by have := hS.1; simp; omega)
  have hL := hS.1
  rw [List.nil_append] at c4
  have hlt : (setU cs).Pairwise (fun a b : Int => a < b) := setU_lt cs
  have hle := setU_le cs
  have h0 : ∀ x ∈ setU cs, 0 ≤ x := fun x hx => (c3 x ((setU_mem cs x).1 hx)).1
  obtain ⟨z1, z2⟩ := dropZ_spec (setU cs) hlt h0
  have hzl : (dropZ (setU cs)).length ≤ (setU cs).length := by
    cases setU cs with
    | nil => simp [dropZ]
    | cons y s => simp only [dropZ]; split <;> simp
  have hT : Turns L (dropZ (setU cs)) := ⟨z1, fun x => by
    rw [z2, setU_mem]
    constructor
    · rintro ⟨q1, q2⟩
      have := c3 x q1
      refine ⟨q2, this.2, ?_⟩
      have := (c2 x q2 this.2).1 q1
      rwa [List.drop_zero] at this
    · rintro ⟨q1, q2, q3⟩
      refine ⟨(c2 x q1 q2).2 ?_, q1⟩
      rwa [List.drop_zero]⟩
  refine ⟨dropZ (setU cs), c4 _ ?_, hT, by omega⟩
  have hl2 := patoms_l2 (dropZ (setU cs)) (by omega) (fun x hx => ⟨((hT.2 x).1 hx).1, ((hT.2 x).1 hx).2.1⟩) (dropZ (setU cs)).length 0 [] 0 (by omega) (by simp)
  rw [List.nil_append, List.nil_append, List.drop_zero] at hl2
  have e1 : ∀ k, Sort_u32.f k cs = some (sortU cs) := fun k => if_pos (by omega)
  have e2 : Compact_u32.f (sortU cs) = some (setU cs) := if_pos (by rw [sortU_len]; omega)
  have hj3 : Ev (fun k => q3z.j3 k (dropZ (setU cs))) (atomsOf 0 (dropZ (setU cs))) := Ev.step (fun k => by simp only [q3z.j3]; rfl) hl2
  have hj2 : Ev (fun k => if ((setU cs).length : Int) > 0 then (if 0 < ((setU cs).length : Int) then (q3z.j2 k (setU cs) ((rd (setU cs) 0) == 0)) else (none)) else (q3z.j2 k (setU cs) false)) (atomsOf 0 (dropZ (setU cs))) := by
    cases hs : setU cs with
    | nil =>
      rw [hs] at hj3
      refine Ev.step (f := fun k => q3z.j3 k []) (fun k => ?_) hj3
      rw [if_neg (by simp)]
      simp only [q3z.j2]
      rfl
    | cons y s =>
      rw [hs] at hj3
      have hr0 : rd (y :: s) 0 = y := rdI (y :: s) 0 (by simp)
      by_cases e : y = 0
      · subst e
        simp only [dropZ, if_true] at hj3 ⊢
        refine Ev.step (f := fun k => q3z.j3 k s) (fun k => ?_) hj3
        rw [if_pos (by simp), if_pos (by simp), hr0]
        simp only [q3z.j2]
        rw [if_pos (by simp), if_pos (by simp; omega)]
        rfl
      · simp only [dropZ, if_neg e] at hj3 ⊢
        refine Ev.step (f := fun k => q3z.j3 k (y :: s)) (fun k => ?_) hj3
        rw [if_pos (by simp), if_pos (by simp), hr0]
        simp only [q3z.j2]
        rw [if_neg (by simpa using e)]
  refine Ev.step (fun k => ?_) hj2
  simp only [q3z.l0]
  rw [if_neg (by omega), e1, Option.bind_some, e2, Option.bind_some]
end Go.Proofs.Ytconaifcjnpabaa.P

namespace Go.Proofs.Ytconaifcjnpabaa.P
open Go.RowKit Go.Proofs.YtconaifcjnpabaaW.PrintWords Go.Proofs.YtconaifcjnpabaaW.PrintMore
set_option linter.unusedVariables false
set_option linter.unusedSimpArgs false
/-! The document's Atoms. -/
def endI : List Int → Int
  | [] => 4294967295
  | n :: _ => n - 1
theorem endI_of (l : List Int) : endOf (l.map (fun n => (n, true))) = endI l := by cases l <;> rfl
theorem ratoms_l1 (L : List (List S33)) (hS : Sets L) (b : List Int) (out : List S33) (i : Nat) (hi : i < b.length) (hb : b.length ≤ 900000) (hi0 : 0 < i) (res : List S33) : ∀ (d j : Nat) (g : Bool), j + d = L.length →
    Ev (fun k => q8z.l1 k L b out (i : Int) b[i] (g && sameAt (L.drop j) b[i - 1] b[i]) b (b.length : Int) (i : Int) L (L.length : Int) (L.length : Int)) res → Ev (fun k => q8z.l1 k L b out (i : Int) b[i] g b (b.length : Int) (i : Int) L (L.length : Int) (j : Int)) res
  | 0, j, g, hj, h => by
    rw [List.drop_eq_nil_of_le (by omega)] at h
    have e : sameAt [] b[i - 1] b[i] = true := rfl
    rw [e, Bool.and_true] at h
    have e2 : j = L.length := by omega
    rw [e2]
    exact h
  | d + 1, j, g, hj, h => by
    have hjl : j < L.length := by omega
    have hl := hS.2 L[j] (List.getElem_mem hjl)
    have hL := hS.1
    rw [List.drop_eq_getElem_cons hjl] at h
    have hrd : rd_L2 L (j : Int) = L[j] := rdL L j hjl
    have hrb : rd b ((i - 1 : Nat) : Int) = b[i - 1] := rdI b (i - 1) (by omega)
    generalize hs : L[j] = s at hl h hrd
    have hsame : sameAt (s :: L.drop (j + 1)) b[i - 1] b[i] = ((InS s b[i] == InS s b[i - 1]) && sameAt (L.drop (j + 1)) b[i - 1] b[i]) := by simp [sameAt]
    rw [hsame] at h
    have ih := ratoms_l1 L hS b out i hi hb hi0 res d (j + 1) (g && (InS s b[i] == InS s b[i - 1])) (by omega) (by rw [Bool.and_assoc]; exact h)
    refine Ev.step (fun k => ?_) (Ev.bind (refIn_ev s b[i] (by omega)) (f := fun k t6 => (q4z.f k s b[i - 1]).bind fun t8 => q8z.l1 k L b out (i : Int) b[i] (g && (t6 == t8)) b (b.length : Int) (i : Int) L (L.length : Int) ((j + 1 : Nat) : Int)) (Ev.bind (refIn_ev s b[i - 1] (by omega)) (f := fun k t8 => q8z.l1 k L b out (i : Int) b[i] (g && (InS s b[i] == t8)) b (b.length : Int) (i : Int) L (L.length : Int) ((j + 1 : Nat) : Int)) ih))
    simp only [q8z.l1]
    rw [if_pos (by omega), if_pos (by omega), if_pos (by omega), if_pos (by omega), hrd, wr2 i (by omega) hi0]
    congr 1
    funext p
    rw [if_pos (by omega), if_pos (by omega), hrb, wr1 j (by omega)]
    congr 1
    funext q
    cases p <;> cases q <;> cases g <;> rfl
theorem ratoms_l1z (L : List (List S33)) (hS : Sets L) (b : List Int) (out : List S33) (n : Int) (res : List S33) : ∀ (d j : Nat), j + d = L.length →
    Ev (fun k => q8z.l1 k L b out 0 n false b (b.length : Int) 0 L (L.length : Int) (L.length : Int)) res → Ev (fun k => q8z.l1 k L b out 0 n false b (b.length : Int) 0 L (L.length : Int) (j : Int)) res
  | 0, j, hj, h => by
    have e2 : j = L.length := by omega
    rw [e2]
    exact h
  | d + 1, j, hj, h => by
    have hL := hS.1
    refine Ev.step (fun k => ?_) (ratoms_l1z L hS b out n res d (j + 1) (by omega) h)
    simp only [q8z.l1]
    rw [if_pos (by omega), if_pos (by omega), if_pos (by omega), if_neg (by omega), wr1 j (by omega)]
theorem ratoms_l0 (L : List (List S33)) (hS : Sets L) (b : List Int) (hb : b.length ≤ 900000) (hr : ∀ z ∈ b, 0 ≤ z ∧ z ≤ 4294967295) (hp : Rising b) (h0 : ∀ z ∈ b.drop 1, 0 < z) : ∀ (d i : Nat) (pre : List S33) (f : Int) (hi : i + 1 + d = b.length), pre.length ≤ i →
    Ev (fun k => q8z.l0 k L b (pre ++ [⟨f, endI (b.drop (i + 1))⟩]) b (b.length : Int) ((i + 1 : Nat) : Int)) (pre ++ atomsOf f (kf L (b[i]'(by omega)) (b.drop (i + 1))))
  | 0, i, pre, f, hi, hpl => by
    rw [List.drop_eq_nil_of_le (by omega)]
    refine Ev.step (f := fun _ => some (pre ++ [⟨f, 4294967295⟩])) (fun k => ?_) (Ev.now _)
    simp only [q8z.l0]
    rw [if_neg (by omega)]
    rfl
  | d + 1, i, pre, f, hi, hpl => by
    have hil : i + 1 < b.length := by omega
    have hend := end_f b (i + 1) hil hb hr hp h0 (fun _ => true)
    rw [endI_of] at hend
    have hrd : rd b ((i + 1 : Nat) : Int) = b[i + 1] := rdI b (i + 1) hil
    rw [List.drop_eq_getElem_cons hil]
    have hlen : ∀ e : Int, ((pre ++ [(⟨f, e⟩ : S33)]).length : Int) = ((pre.length + 1 : Nat) : Int) := fun e => by simp
    have hw : wrap64 (((pre.length + 1 : Nat) : Int) - 1) = (pre.length : Int) := by rw [wr2 _ (by omega) (by omega)]; simp
    have hrs : ∀ e : Int, rd_T33 (pre ++ [(⟨f, e⟩ : S33)]) (pre.length : Int) = ⟨f, e⟩ := fun e => by
      rw [rdS _ _ (by simp)]
      simp
    refine Ev.step (f := fun k => q8z.l1 k L b (pre ++ [⟨f, b[i + 1] - 1⟩]) ((i + 1 : Nat) : Int) b[i + 1] true b (b.length : Int) ((i + 1 : Nat) : Int) L (L.length : Int) ((0 : Nat) : Int)) (fun k => ?_) ?_
    · simp only [q8z.l0]
      rw [if_pos (by omega), if_pos (by omega), if_pos (by omega), hrd, decide_eq_true (by omega)]
      rfl
    · refine ratoms_l1 L hS b _ (i + 1) hil hb (by omega) _ L.length 0 true (by omega) ?_
      rw [List.drop_zero, Bool.true_and]
      have hpi : b[i + 1 - 1]'(by omega) = b[i]'(by omega) := rfl
      rw [hpi]
      unfold kf
      cases e : sameAt L (b[i]'(by omega)) b[i + 1] with
      | true =>
        rw [if_pos rfl]
        have ih := ratoms_l0 L hS b hb hr hp h0 d (i + 1) pre f (by omega) (by omega)
        refine Ev.step (fun k => ?_) ih
        simp only [q8z.l1]
        rw [if_neg (by omega), if_pos trivial, hend, Option.bind_some, hlen, hw, if_pos (by omega), if_pos (by omega), hrs, Int.toNat_natCast, set_last, wr1 (i + 1) (by omega)]
      | false =>
        rw [if_neg (by decide)]
        have ih := ratoms_l0 L hS b hb hr hp h0 d (i + 1) (pre ++ [⟨f, b[i + 1] - 1⟩]) b[i + 1] (by omega) (by simp; omega)
        rw [show (pre ++ [(⟨f, b[i + 1] - 1⟩ : S33)]) ++ atomsOf b[i + 1] (kf L b[i + 1] (b.drop (i + 1 + 1))) = pre ++ atomsOf f (b[i + 1] :: kf L b[i + 1] (b.drop (i + 1 + 1))) by rw [List.append_assoc]; rfl] at ih
        refine Ev.step (fun k => ?_) ih
        simp only [q8z.l1]
        rw [if_neg (by omega), if_neg (by decide), hend, Option.bind_some, if_pos (by simp; omega), wr1 (i + 1) (by omega)]
theorem sum_le (L : List (List S33)) (m : Nat) (h : ∀ l ∈ L, l.length ≤ m) : (L.map List.length).sum ≤ m * L.length := by
  induction L with
  | nil => simp
  | cons l r ih =>
    have h1 := h l List.mem_cons_self
    have h2 := ih (fun x hx => h x (List.mem_cons_of_mem _ hx))
    simp only [List.map_cons, List.sum_cons, List.length_cons, Nat.mul_succ]
    omega
theorem cutL_len (L : List (List S33)) : ∀ b, Rising b → (cutL b L).length ≤ b.length + 2 * (L.map List.length).sum := by
  induction L with
  | nil => intro b _; simp [cutL]
  | cons l r ih =>
    intro b hb
    obtain ⟨p1, _, p3⟩ := cutS_spec l b hb
    have := ih _ p1
    rw [cutL]
    simp only [List.map_cons, List.sum_cons]
    omega
theorem ratoms_ev (L : List (List S33)) (hS : Sets L) : ∃ C, Ev (fun k => q8z.f k L) (atomsOf 0 C) ∧ Turns L C := by
  obtain ⟨r, q1, q2, q3, q4⟩ := kf_turns L (fun l hl => (hS.2 l hl).1)
  have hL := hS.1
  have hsum := sum_le L 200 (fun l hl => (hS.2 l hl).2)
  have hlen := cutL_len L [0] (List.pairwise_singleton _ _)
  rw [q1] at hlen
  simp only [List.length_cons, List.length_nil] at hlen
  have hb := begins_l0 L hL (fun l hl => ⟨(hS.2 l hl).1, by have := (hS.2 l hl).2; omega⟩) L.length 0 [0] (2 * (L.map List.length).sum) (by omega) (by simp; omega) (by rw [List.drop_zero]; exact Nat.le_refl _) (List.pairwise_singleton _ _)
  rw [List.drop_zero, q1] at hb
  refine ⟨kf L 0 r, ?_, q2⟩
  have hr : ∀ z ∈ (0 :: r), 0 ≤ z ∧ z ≤ 4294967295 := fun z hz => by
    rcases List.mem_cons.1 hz with rfl | hz
    · omega
    · have := q4 z hz; omega
  have h0 : ∀ z ∈ (0 :: r).drop 1, 0 < z := fun z hz => (q4 z (by simpa using hz)).1
  have hmain := ratoms_l0 L hS (0 :: r) (by simp; omega) hr q3 h0 r.length 0 [] 0 (by simp; omega) (by simp)
  have hend := end_f (0 :: r) 0 (by simp) (by simp; omega) hr q3 h0 (fun _ => true)
  rw [endI_of] at hend
  refine Ev.bind hb (f := fun k t1 => q8z.l0 k L t1 ([] : List S33) t1 (t1.length : Int) 0) ?_
  refine Ev.step (f := fun k => q8z.l1 k L (0 :: r) [] 0 0 false (0 :: r) ((0 :: r).length : Int) 0 L (L.length : Int) ((0 : Nat) : Int)) (fun k => ?_) (ratoms_l1z L hS (0 :: r) [] 0 _ L.length 0 (by omega) ?_)
  · simp only [q8z.l0]
    rw [if_pos (by simp), if_pos (by omega), if_pos (by simp), show rd (0 :: r) 0 = 0 from rdI (0 :: r) 0 (by simp)]
    rfl
  · refine Ev.step (fun k => ?_) hmain
    simp only [q8z.l1]
    rw [if_neg (by omega), if_neg (by decide)]
    have hend' : q7z.f (0 :: r) 0 = some (endI ((0 :: r).drop (0 + 1))) := hend
    rw [hend', Option.bind_some, if_pos (by simp), show wrap64 (0 + 1) = ((0 + 1 : Nat) : Int) from wr1 0 (by omega)]
theorem Rng_of_good (l : List S33) (h : ∀ z ∈ l, good33 z) : Rng l := fun s hs => by
  have := h s hs
  unfold good33 at this
  simp [Lit.wf, IntKind.min, IntKind.max, IntKind.signed, IntKind.bits] at this
  omega
end Go.Proofs.Ytconaifcjnpabaa.P

namespace Go.Proofs.Ytconaifcjnpabaa.P
open Go.RowKit Go.Proofs.YtconaifcjnpabaaW.PrintWords Go.Proofs.YtconaifcjnpabaaW.PrintMore
set_option linter.unusedVariables false
set_option linter.unusedSimpArgs false
theorem norm_eq (l r : List S33) (hl : l.length ≤ 1000000) (hr : Rng l) (hn : NF r) (h : ∀ n, InS r n = InS l n) : Ev (fun k => q2z.f k l) r := by
  obtain ⟨t, h1, h2, h3, _⟩ := norm_ev l hl hr
  rwa [nf_ext h2 hn (fun n => by rw [h3, h])] at h1
theorem nf1 (a b : Int) (h0 : 0 ≤ a) (h1 : a ≤ b) (h2 : b ≤ 4294967295) : NF [⟨a, b⟩] := NF_cons.2 ⟨⟨h0, h1, h2⟩, fun _ h => (List.not_mem_nil h).elim, NF_nil⟩
theorem rng1 (a b : Int) (h0 : 0 ≤ a) (h1 : a ≤ b) (h2 : b ≤ 4294967295) : Rng [⟨a, b⟩] := NF_Rng (nf1 a b h0 h1 h2)
theorem rng_cons (a b : Int) (l : List S33) (h : 0 ≤ a ∧ a ≤ 4294967295 ∧ 0 ≤ b ∧ b ≤ 4294967295) (hl : Rng l) : Rng (⟨a, b⟩ :: l) := fun s hs => by
  rcases List.mem_cons.1 hs with rfl | hs
  · exact h
  · exact hl s hs
theorem atoms_tail : ∀ m, q3z.l0 (m + 40) [2, 6, 4, 10] [[⟨2, 5⟩], [⟨4, 9⟩]] 2 2 = some [⟨0, 1⟩, ⟨2, 3⟩, ⟨4, 5⟩, ⟨6, 9⟩, ⟨10, 4294967295⟩] := by
  intro m
  kernel_rfl
theorem alive_ev : Ev (fun k => q10z.f k) true := by
  have h1 := norm_eq [⟨5, 7⟩, ⟨1, 2⟩, ⟨3, 4⟩, ⟨9, 8⟩] [⟨1, 7⟩] (by decide) (rng_cons _ _ _ (by decide) (rng_cons _ _ _ (by decide) (rng_cons _ _ _ (by decide) (rng_cons _ _ _ (by decide) (fun s hs => (List.not_mem_nil hs).elim))))) (nf1 _ _ (by decide) (by decide) (by decide)) (fun n => by
    rw [Bool.eq_iff_iff]
    simp only [InS, List.any_cons, List.any_nil, Bool.or_false, Bool.or_eq_true, inSpan_iff]
    omega)
  obtain ⟨t, n1, n2, n3, _⟩ := not_ev [⟨0, 4⟩] (by decide) (rng1 _ _ (by decide) (by decide) (by decide))
  have ht : t = [⟨5, 4294967295⟩] := nf_ext n2 (nf1 _ _ (by decide) (by decide) (by decide)) (fun n => by
    rw [n3, Bool.eq_iff_iff]
    simp only [InS, List.any_cons, List.any_nil, Bool.or_false, Bool.and_eq_true, decide_eq_true_eq, Bool.not_eq_true', inSpan, Bool.and_eq_false_iff, decide_eq_false_iff_not]
    omega)
  subst ht
  have a1 := norm_eq [⟨2, 5⟩] [⟨2, 5⟩] (by decide) (rng1 _ _ (by decide) (by decide) (by decide)) (nf1 _ _ (by decide) (by decide) (by decide)) (fun _ => rfl)
  have a2 := norm_eq [⟨4, 9⟩] [⟨4, 9⟩] (by decide) (rng1 _ _ (by decide) (by decide) (by decide)) (nf1 _ _ (by decide) (by decide) (by decide)) (fun _ => rfl)
  have at_ : Ev (fun k => q3z.f k [[⟨2, 5⟩], [⟨4, 9⟩]]) [⟨0, 1⟩, ⟨2, 3⟩, ⟨4, 5⟩, ⟨6, 9⟩, ⟨10, 4294967295⟩] := by
    refine Ev.step (g := fun k => q3z.l0 k [] [[⟨2, 5⟩], [⟨4, 9⟩]] 2 0) (fun k => ?_) (Ev.bind a1 (f := fun k t => q3z.l1 k [] [[⟨2, 5⟩], [⟨4, 9⟩]] 2 0 t (t.length : Int) 0) ?_)
    · kernel_rfl
    · refine Ev.step (f := fun k => q3z.l1 k [2, 6] [[⟨2, 5⟩], [⟨4, 9⟩]] 2 0 [⟨2, 5⟩] 1 1) (fun k => by kernel_rfl) ?_
      refine Ev.step (f := fun k => q3z.l0 k [2, 6] [[⟨2, 5⟩], [⟨4, 9⟩]] 2 1) (fun k => by kernel_rfl) ?_
      refine Ev.step (fun k => ?_) (Ev.bind a2 (f := fun k t => q3z.l1 k [2, 6] [[⟨2, 5⟩], [⟨4, 9⟩]] 2 1 t (t.length : Int) 0) ?_)
      · kernel_rfl
      · refine Ev.step (f := fun k => q3z.l1 k [2, 6, 4, 10] [[⟨2, 5⟩], [⟨4, 9⟩]] 2 1 [⟨4, 9⟩] 1 1) (fun k => by kernel_rfl) ?_
        refine Ev.step (f := fun k => q3z.l0 k [2, 6, 4, 10] [[⟨2, 5⟩], [⟨4, 9⟩]] 2 2) (fun k => by kernel_rfl) ?_
        refine ⟨40, fun k hk => ?_⟩
        obtain ⟨m, rfl⟩ : ∃ m, k = m + 40 := ⟨k - 40, by omega⟩
        exact atoms_tail m
  refine Ev.bind h1 (f := fun k t => (q1z.f k t [⟨1, 7⟩]).bind fun t171 => (if t171 = true then ((q9z.f k [⟨0, 4⟩]).bind fun t175 => ((q1z.f k t175 [⟨5, 4294967295⟩]).bind fun t181 => (if t181 = true then ((q3z.f k [[⟨2, 5⟩], [⟨4, 9⟩]]).bind fun t191 => (some ((t191.length : Int) == 5))) else (some false)))) else (some false))) ?_
  refine Ev.bind (same_ev _ (by decide)) (f := fun k t171 => if t171 = true then ((q9z.f k [⟨0, 4⟩]).bind fun t175 => ((q1z.f k t175 [⟨5, 4294967295⟩]).bind fun t181 => (if t181 = true then ((q3z.f k [[⟨2, 5⟩], [⟨4, 9⟩]]).bind fun t191 => (some ((t191.length : Int) == 5))) else (some false)))) else (some false)) ?_
  simp only [if_true]
  refine Ev.bind n1 (f := fun k t => (q1z.f k t [⟨5, 4294967295⟩]).bind fun t181 => (if t181 = true then ((q3z.f k [[⟨2, 5⟩], [⟨4, 9⟩]]).bind fun t191 => (some ((t191.length : Int) == 5))) else (some false))) ?_
  refine Ev.bind (same_ev _ (by decide)) (f := fun k t => if t = true then ((q3z.f k [[⟨2, 5⟩], [⟨4, 9⟩]]).bind fun t191 => (some ((t191.length : Int) == 5))) else (some false)) ?_
  simp only [if_true]
  exact Ev.bind at_ (f := fun _ t => some ((t.length : Int) == 5)) (Ev.congr (fun _ => by kernel_rfl) (Ev.now true))
end Go.Proofs.Ytconaifcjnpabaa.P

namespace Go.Proofs.Ytconaifcjnpabaa.P
open Go.RowKit Go.Proofs.YtconaifcjnpabaaW.PrintWords Go.Proofs.YtconaifcjnpabaaW.PrintMore
set_option linter.unusedVariables false
theorem atomsOf_len (C : List Int) : ∀ f, (atomsOf f C).length = C.length + 1 := by
  induction C with
  | nil => intro f; rfl
  | cons c cs ih => intro f; simp only [atomsOf, List.length_cons, ih]
theorem wrn (i : Nat) (h : i < 9223372036854775807) : wrap64 ((i : Int) + 1) = ((i + 1 : Nat) : Int) := by rw [wr _ (by omega) (by omega)]; omega
theorem satoms_l0 (L : List (List S33)) (hL : L.length ≤ 9223372036854775807) (hr : ∀ l ∈ L, Rng l) : ∀ (d i : Nat) (n : Int), i + d = L.length → 0 ≤ n → n ≤ 80 → (∀ l ∈ L.take i, l.length ≤ 100) → Ev (fun k => q12z.l0 k L n L (L.length : Int) (i : Int)) true
  | 0, i, n, hi, h0, h1, ht => by
    rw [List.take_of_length_le (by omega)] at ht
    by_cases hg : L.length > 40
    · refine Ev.step (f := fun _ => some true) (fun k => ?_) (Ev.now _)
      simp only [q12z.l0]
      rw [if_neg (by omega), if_pos (by omega)]
    · have hS : Sets L := ⟨by omega, fun l hl => ⟨hr l hl, by have := ht l hl; omega⟩⟩
      obtain ⟨C, e1, t1, c1⟩ := patoms_ev L hS
      obtain ⟨D, e2, t2⟩ := ratoms_ev L hS
      rw [← t1.uniq t2] at e2
      refine Ev.step (fun k => ?_) (Ev.bind e1 (f := fun k t4 => (q8z.f k L).bind fun t7 => (q1z.f k t4 t7).bind fun t10 => some t10) (Ev.bind e2 (f := fun k t7 => (q1z.f k (atomsOf 0 C) t7).bind fun t10 => some t10) (Ev.bind (same_ev (atomsOf 0 C) (by rw [atomsOf_len]; omega)) (f := fun _ t => some t) (Ev.now true))))
      simp only [q12z.l0]
      rw [if_neg (by omega), if_neg (by omega)]
  | d + 1, i, n, hi, h0, h1, ht => by
    have hil : i < L.length := by omega
    have hrd : rd_L2 L (i : Int) = L[i] := rdL L i hil
    have htk : L.take (i + 1) = L.take i ++ [L[i]] := by rw [List.take_append_getElem hil]
    generalize hs : L[i] = s at hrd htk
    have hmn : 0 ≤ mn (s.length : Int) 100 ∧ mn (s.length : Int) 100 ≤ 100 := by unfold mn; split <;> omega
    have hw : wrap64 (n + mn (s.length : Int) 100) = n + mn (s.length : Int) 100 := wr _ (by omega) (by omega)
    by_cases hc : n + mn (s.length : Int) 100 > 80
    · refine Ev.step (f := fun _ => some true) (fun k => ?_) (Ev.now _)
      simp only [q12z.l0]
      rw [if_pos (by omega), if_pos (by omega), if_pos (by omega), hrd, hw, if_pos hc]
    · by_cases hg : (s.length : Int) > 100
      · refine Ev.step (f := fun _ => some true) (fun k => ?_) (Ev.now _)
        simp only [q12z.l0, q11z.f]
        rw [if_pos (by omega), if_pos (by omega), if_pos (by omega), hrd, hw, if_neg hc]
        simp [hg]
      · have ih := satoms_l0 L hL hr d (i + 1) (n + mn (s.length : Int) 100) (by omega) (by omega) (by omega) (fun l hl => by
          rw [htk] at hl
          rcases List.mem_append.1 hl with q | q
          · exact ht l q
          · rw [List.mem_singleton.1 q]; omega)
        refine Ev.step (fun k => ?_) ih
        simp only [q12z.l0, q11z.f]
        rw [if_pos (by omega), if_pos (by omega), if_pos (by omega), hrd, hw, if_neg hc, Option.bind_some, decide_eq_false hg, if_neg (by decide), wrn i (by omega)]
theorem pure_SpanAtoms (l0 : List (List (S33))) (h0 : (l0.length ≤ 9223372036854775807 ∧ ∀ z_ ∈ l0, (z_.length ≤ 9223372036854775807 ∧ ∀ z_z ∈ z_, good33 z_z))) : ∃ k, q12z.f k l0 = some true := by
  have h := satoms_l0 l0 h0.1 (fun l hl => Rng_of_good l (h0.2 l hl).2) l0.length 0 0 (by omega) (by omega) (by omega) (by simp)
  exact (Ev.bind alive_ev (f := fun k t1 => if t1 = true then (q12z.l0 k l0 0 l0 (l0.length : Int) 0) else (some false)) (by simp only [if_true]; exact h)).rounds
end Go.Proofs.Ytconaifcjnpabaa.P

namespace Go.Proofs.Ytconaifcjnpabaa.spanAtoms
open Go.ChangeShapes Go.WideShapes Go.ChangeAt Go.RowKit
open Go.ChangeMaps (open_string shut_string)
open Go.Proofs.YtconaifcjnpabaaW.PrintWords Go.Proofs.YtconaifcjnpabaaW.PrintLast Go.Proofs.YtconaifcjnpabaaW.PrintMore Go.Proofs.Ytconaifcjnpabaa.P
set_option linter.unusedVariables false
set_option linter.unusedSimpArgs false
theorem own : ownKnob Try.prog.godebug = none := by kernel_rfl
theorem laidOut : laidOutB Try.prog = true := by kernel_rfl
set_option maxRecDepth 100000 in
theorem lifted (os : Os) (started : os.Started) (H : Type) (enc : TypeId × Value → H) :
    ReturnsInHanded {} Try.checked os 3 .any (Rows.spanAtomsSpec.pre6 enc Try.prog Try.f3 Rows.spanAtomsRow.domain false) (Rows.spanAtomsSpec.post enc Try.prog Try.f3 false true false false) := by
  refine returnsInHanded_of_change_sized (C := Try.checked) own started (by kernel_rfl) Try.func3
    (ChangeSpec.witness6 (enc := enc) (C := Try.checked) false ⟨#[], #[.slice none 0 0], []⟩ 8 (by kernel_rfl) (by kernel_rfl) (by kernel_rfl) (by kernel_rfl)) ?_
  intro W base args ds gs before hval0 hW hcnd hsz0 _
  have hval : ∀ (j : Nat) t v, Try.f3.params[j]? = some t → args[j]? = some v → Value.okWide Try.prog W .any base t v := hval0
  have hW' := hW
  obtain ⟨p, q, hA0, hV, rfl, hfz, hnd⟩ := hW
  have hA : DataW.TrodAll enc Try.prog W 0 (fun _ => true) true Try.f3.params.toList args.toList ds p := hA0
  rw [Try.params3] at hA hval
  obtain ⟨v0, vs0, d0, ds0, p0, q0, hargs, rfl, rfl, h0, r0⟩ := trodAll_cons hA
  obtain ⟨rfl, rfl, rfl⟩ := trodAll_nil r0
  obtain rfl : args = #[v0] := by cases args; simp_all
  obtain ⟨rfl, rfl⟩ := trodVars_none hV
  obtain ⟨a0, len0, cap0, rfl⟩ := okWide_slice Try.underlying22 (hval 0 22 v0 rfl rfl)
  have k0 := h0
  have lt0 : ∀ x ∈ p0, x.block < W.heap.size := by obtain ⟨m, hm⟩ := k0; exact DataW.trod_lt m _ _ _ hm
  obtain ⟨l0, hK0, hg0⟩ : ∃ l_ : List (List (S33)), (Kd.slice 24 (Kd.slice 33 k33)).K W l_ [.slice a0 len0 cap0] ∧ (l_.length ≤ 9223372036854775807 ∧ ∀ z_ ∈ l_, (z_.length ≤ 9223372036854775807 ∧ ∀ z_z ∈ z_, good33 z_z)) := by obtain ⟨fuel, hf⟩ := h0; exact (opens_slice Try.underlying22 (by kernel_rfl) (opens_slice Try.underlying24 (by kernel_rfl) opens_T33)) _ _ _ (by simpa [Value.cells] using hf)
  obtain ⟨A0_, c0_, hc0, hle0, hC0⟩ := hK0
  simp only [List.cons.injEq, Value.slice.injEq, and_true] at hc0
  obtain ⟨rfl, rfl, rfl⟩ := hc0
  clear hA0 hval0 hsz0
  obtain ⟨k_, hk_⟩ := pure_SpanAtoms l0 hg0
  refine (q12z.calls k_ a0 cap0 l0 true W hC0 hle0 hk_).mono fun e W' ⟨he, bel⟩ => ?_
  subst he
  exact ⟨_, rfl, _, _, _, [], _, [], hW', trodAll_mk1 (shut_bool Try.underlying4 _), (trodAll_cons_mk (Below.trod laidOut (by kernel_rfl) (of_decide_eq_true (by kernel_rfl)) k0 bel lt0) trodAll_mk0), rfl, bel.frame _, fun h => by cases h⟩
theorem over : Rows.spanAtomsRow.holds Try.pinned (OpenSpec.ofChange Rows.spanAtomsSpec) :=
  OpenClaim.holds_of_wide 3 Try.f3 rfl rfl rfl rfl rfl rfl rfl ⟨rfl, rfl, rfl, rfl, rfl⟩ rfl rfl rfl rfl rfl (by kernel_rfl) Try.func3 (by kernel_rfl)
    (of_decide_eq_true (by kernel_rfl)) (by unfold Func.isWrapper; first | (rw [if_pos (by decide +kernel)]; kernel_rfl) | (rw [if_neg (by decide +kernel)]; exact ⟨rfl, rfl⟩))
    (fun os started H enc _ => lifted os started H enc)
theorem proved : Rows.SpanAtomsSaid := over
end Go.Proofs.Ytconaifcjnpabaa.spanAtoms
namespace Go.Proofs.Ytconaifcjnpabaa
/-- The row, under a short name, for the claim. -/
theorem spanAtoms_holds : Rows.SpanAtomsSaid := spanAtoms.proved
#print axioms spanAtoms_holds
end Go.Proofs.Ytconaifcjnpabaa
