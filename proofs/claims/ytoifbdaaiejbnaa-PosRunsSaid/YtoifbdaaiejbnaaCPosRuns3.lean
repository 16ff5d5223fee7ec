/-
  Proved: for every input the law PosRuns answers true, and each argument reads behind the call as it read before.
  Conditions: none beside the row's own.
-/
import Derived.Deep.Slices
import Derived.SizedLaws
import Derived.KernelRfl
import Derived.Shelf.Spec.SlicesInsertGrow
import Derived.RowKit
import Derived.WalkKit
import Derived.ProofKit
import Derived.OpenShut
import Derived.Test.YtoifbdaaiejbnaaRows
import Derived.ChangeOld
import Derived.Below
import Derived.Carry
import Derived.Test.YtoifbdaaiejbnaaCPosRuns0
import Derived.Test.YtoifbdaaiejbnaaCPosRuns1
import Derived.Test.YtoifbdaaiejbnaaCPosRuns2
set_option linter.unusedVariables false
set_option linter.unusedSimpArgs false
/- What the program makes of a pattern: its positions. -/
namespace Go.Proofs.Ytoifbdaaiejbnaa.D
open Go

/- span.Norm -/
def mergeP (acc : List (Int × Int)) (s : Int × Int) : List (Int × Int) :=
  match acc with
  | [] => [s]
  | r :: o => if r.2 = 4294967295 ∨ s.1 ≤ IntKind.wrap .u32 (r.2 + 1) then (r.1, maxI r.2 s.2) :: o else s :: r :: o
noncomputable def sortP (l : List (Int × Int)) : List (Int × Int) := (sortSpan l).getD []
noncomputable def normP (l : List (Int × Int)) : List (Int × Int) := ((sortP (l.filter fun s => decide (s.1 ≤ s.2))).foldl mergeP []).reverse

theorem mergeP_in {q x : Int × Int} {o : List (Int × Int)} (h : q.2 = 4294967295 ∨ x.1 ≤ IntKind.wrap .u32 (q.2 + 1)) : (q.1, maxI q.2 x.2) :: o = mergeP (q :: o) x := (if_pos h).symm
theorem mergeP_out {q x : Int × Int} {o : List (Int × Int)} (h : ¬ (q.2 = 4294967295 ∨ x.1 ≤ IntKind.wrap .u32 (q.2 + 1))) : x :: q :: o = mergeP (q :: o) x := (if_neg h).symm
theorem mergeP_len (acc : List (Int × Int)) (s : Int × Int) : (mergeP acc s).length ≤ acc.length + 1 := by
  unfold mergeP
  split
  · exact Nat.le_refl _
  · split
    · exact Nat.le_succ _
    · exact Nat.le_refl _

theorem span_Norm.first (C : B0.Call) (l : List (Int × Int)) (hl : l.length < 1099511627776) (n : Nat) (Y : List (Int × Int))
    (hY : ∀ m, n ≤ m → Option.bind (sortSpan (l.filter fun s => decide (s.1 ≤ s.2))) (fun r0 => span_Norm.l11 (span_Norm.R C m) [] r0 ((List.length r0) : Int) 0) = some Y) :
    ∀ (r : List (Int × Int)) (i j : Nat) (o : List (Int × Int)), l.drop i = r → r.length + n < j → o ++ r.filter (fun s => decide (s.1 ≤ s.2)) = l.filter (fun s => decide (s.1 ≤ s.2)) →
    span_Norm.l3 (span_Norm.R C j) o l l.length i = some Y := by
  intro r
  induction r with
  | nil =>
    intro i j o hr hj ho
    obtain ⟨m, rfl, hm⟩ := succ_of hj
    rw [span_Norm.s3, span_Norm.t3, dec_ge (drop_nil' hr), cond_false]
    rw [List.filter_nil, List.append_nil] at ho
    rw [ho]
    exact hY m (by simpa using hm)
  | cons x r ih =>
    intro i j o hr hj ho
    obtain ⟨m, rfl, hm⟩ := succ_of hj
    obtain ⟨h1, h2, h3⟩ := drop_cons' hr
    rw [List.length_cons] at hj
    have hol : o.length ≤ l.length := by
      have e := congrArg List.length ho
      rw [List.length_append] at e
      have := List.length_filter_le (fun s : Int × Int => decide (s.1 ≤ s.2)) l
      omega
    rw [span_Norm.s3, span_Norm.t3, dec_lt h1, cond_true, idx_nat, h2, Option.bind_some, wrapS i (by omega), room_ok (by simp; omega)]
    by_cases hx : x.1 ≤ x.2
    · rw [decide_eq_true hx]
      refine ih (i + 1) m (o ++ [x]) h3 (by omega) ?_
      rw [List.filter_cons, if_pos (decide_eq_true hx)] at ho
      rw [← ho, List.append_assoc]; rfl
    · rw [decide_eq_false hx]
      refine ih (i + 1) m o h3 (by omega) ?_
      rwa [List.filter_cons, if_neg (by simpa using hx)] at ho

theorem idx_last {α : Type} (o : List α) (r : α) : idx (o ++ [r]) (IntKind.wrap .i64 (((o ++ [r]).length : Int) - 1)) = if (o ++ [r]).length < 9223372036854775807 then some r else idx (o ++ [r]) (IntKind.wrap .i64 (((o ++ [r]).length : Int) - 1)) := by
  split
  · rename_i h
    rw [List.length_append] at h
    have h : o.length + 1 < 9223372036854775807 := h
    have e : IntKind.wrap .i64 (((o ++ [r]).length : Int) - 1) = (o.length : Int) := by
      rw [List.length_append]
      show IntKind.wrap .i64 (((o.length + 1 : Nat) : Int) - 1) = _
      rw [wrap64 (by omega) (by omega)]; omega
    rw [e, idx_nat, List.getElem?_append_right (Nat.le_refl _), Nat.sub_self]; rfl
  · rfl

theorem span_Norm.second (C : B0.Call) (l : List (Int × Int)) (hl : l.length < 1099511627776) :
    ∀ (r : List (Int × Int)) (i j : Nat) (acc : List (Int × Int)), l.drop i = r → r.length < j → acc.length + r.length ≤ l.length → span_Norm.l11 (span_Norm.R C j) acc.reverse l l.length i = some (r.foldl mergeP acc).reverse := by
  intro r
  induction r with
  | nil =>
    intro i j acc hr hj _
    obtain ⟨m, rfl, hm⟩ := succ_of hj
    rw [span_Norm.s11, span_Norm.t11, dec_ge (drop_nil' hr), cond_false]
    rfl
  | cons x r ih =>
    intro i j acc hr hj hacc
    obtain ⟨m, rfl, hm⟩ := succ_of hj
    obtain ⟨h1, h2, h3⟩ := drop_cons' hr
    rw [List.length_cons] at hj hacc
    have go : ∀ acc', acc' = mergeP acc x → span_Norm.l11 (span_Norm.R C m) acc'.reverse l l.length ((i + 1 : Nat) : Int) = some (List.foldl mergeP acc (x :: r)).reverse := by
      rintro _ rfl
      exact ih (i + 1) m (mergeP acc x) h3 (by omega) (by have := mergeP_len acc x; omega)
    rw [span_Norm.s11, span_Norm.t11, dec_lt h1, cond_true, inB_ok (by omega) (by omega), cond_true, idx_nat, h2, Option.bind_some, wrapS i (by omega)]
    cases acc with
    | nil =>
      rw [room_ok (by simp)]
      exact go [x] rfl
    | cons q o =>
      have el : (q :: o).reverse = o.reverse ++ [q] := List.reverse_cons
      have hlen : (o.reverse ++ [q]).length < 9223372036854775807 := by rw [List.length_append, List.length_reverse]; rw [List.length_cons] at hacc; show o.length + 1 < _; omega
      have hlen' : o.reverse.length + 1 < 9223372036854775807 := by rw [List.length_append] at hlen; exact hlen
      have ei := idx_last o.reverse q
      rw [if_pos hlen] at ei
      have ew : IntKind.wrap .i64 (((o.reverse ++ [q]).length : Int) - 1) = (o.reverse.length : Int) := by
        rw [List.length_append]
        show IntKind.wrap .i64 (((o.reverse.length + 1 : Nat) : Int) - 1) = _
        rw [wrap64 (by omega) (by omega)]; omega
      have eb : inB (o.reverse ++ [q]).length (IntKind.wrap .i64 (((o.reverse ++ [q]).length : Int) - 1)) = true := by
        rw [ew]
        exact inB_ok (by omega) (by rw [List.length_append]; show ((o.reverse.length : Nat) : Int) < ((o.reverse.length + 1 : Nat) : Int); omega)
      have es : ∀ z : Int × Int, List.set (o.reverse ++ [q]) (Int.toNat (IntKind.wrap .i64 (((o.reverse ++ [q]).length : Int) - 1))) z = (z :: o).reverse := fun z => by
        rw [ew, Int.toNat_natCast, List.set_append_right _ _ (Nat.le_refl _), Nat.sub_self, List.reverse_cons]; rfl
      have epos : decide ((((o.reverse ++ [q]).length : Nat) : Int) > 0) = true := decide_eq_true (by rw [List.length_append]; show ((o.reverse.length + 1 : Nat) : Int) > 0; omega)
      rw [el, epos, cond_true, eb, cond_true, ei, Option.bind_some, cond_true, cond_true, Option.bind_some, Option.bind_some, Option.bind_some, es, cond_true]
      by_cases hq : q.2 = 4294967295
      · have e1 : (q.2 == 4294967295) = true := by simp [hq]
        rw [e1, cond_true]
        exact go _ (mergeP_in (Or.inl hq))
      · have e1 : (q.2 == 4294967295) = false := by simp [hq]
        rw [e1, cond_false]
        by_cases hw : x.1 ≤ IntKind.wrap .u32 (q.2 + 1)
        · rw [decide_eq_true hw, cond_true]
          exact go _ (mergeP_in (Or.inr hw))
        · rw [decide_eq_false hw, cond_false, room_ok (by rw [List.length_append, List.length_reverse]; rw [List.length_cons] at hacc; simp; omega)]
          refine (congrArg (fun z => span_Norm.l11 (span_Norm.R C m) z l l.length ((i + 1 : Nat) : Int)) ?_).trans (go (x :: q :: o) (mergeP_out (by rintro (h | h) <;> contradiction)))
          rw [List.reverse_cons, el]

theorem span_Norm.spec (l : List (Int × Int)) (hl : l.length < 549755813888) (k : Nat) (hk : 3 * l.length + 3 < k) : span_Norm.C (B0.call (k + 1)) l = some (normP l) := by
  rw [span_Norm.s, span_Norm.t]
  have hf := List.length_filter_le (fun s : Int × Int => decide (s.1 ≤ s.2)) l
  obtain ⟨r, hr⟩ := sortSpan_some (l.filter fun s => decide (s.1 ≤ s.2)) (by omega)
  have hrl := (sortSpan_sorts hr).1.length_eq
  refine span_Norm.first (B0.call k) l (by omega) (l.length + 1) (normP l) (fun m hm => ?_) l 0 k [] List.drop_zero (by omega) rfl
  rw [hr, Option.bind_some]
  refine (span_Norm.second (B0.call k) r (by omega) r 0 m [] List.drop_zero (by omega) (by simp)).trans ?_
  unfold normP sortP
  rw [hr]; rfl

end Go.Proofs.Ytoifbdaaiejbnaa.D
/- What part, cat and chain make of a pattern: plain words, and that they do. -/
namespace Go.Proofs.Ytoifbdaaiejbnaa.D
open Go

abbrev Sets := List (List (Int × Int))
abbrev Told := Bool × List Int × List Int

def chainP (F : List (List Int)) (last first : List Int) : List (List Int) := last.foldl (fun F k => F.set k.toNat (withL (F.getD k.toNat []) first)) F
def catT (a b : Told) : Told := (a.1 && b.1, bif a.1 then withL a.2.1 b.2.1 else a.2.1, bif b.1 then withL a.2.2 b.2.2 else b.2.2)
def altT (a b : Told) : Told := (a.1 || b.1, withL a.2.1 b.2.1, withL a.2.2 b.2.2)

mutual
noncomputable def partP : Pat → Sets → List (List Int) → Told × Sets × List (List Int)
  | .mk k s l, S, F => if k = 1 then ((false, [(S.length : Int)], [(S.length : Int)]), S ++ [normP s], F ++ [[]]) else if k = 2 then catP l (true, [], []) S F else if k = 3 then altP l (false, [], []) S F else starP l S F
noncomputable def catP : List Pat → Told → Sets → List (List Int) → Told × Sets × List (List Int)
  | [], o, S, F => (o, S, F)
  | p :: l, o, S, F => catP l (catT o (partP p S F).1) (partP p S F).2.1 (chainP (partP p S F).2.2 o.2.2 (partP p S F).1.2.1)
noncomputable def altP : List Pat → Told → Sets → List (List Int) → Told × Sets × List (List Int)
  | [], o, S, F => (o, S, F)
  | p :: l, o, S, F => altP l (altT o (partP p S F).1) (partP p S F).2.1 (partP p S F).2.2
noncomputable def starP : List Pat → Sets → List (List Int) → Told × Sets × List (List Int)
  | [], S, F => ((true, [], []), S, F)
  | p :: _, S, F => ((true, (partP p S F).1.2), (partP p S F).2.1, chainP (partP p S F).2.2 (partP p S F).1.2.2 (partP p S F).1.2.1)
end

/- what stays so -/
def GoodL (n : Nat) (l : List Int) : Prop := Rise l ∧ ∀ x ∈ l, 0 ≤ x ∧ x < n
def GoodF (n : Nat) (F : List (List Int)) : Prop := F.length = n ∧ ∀ g ∈ F, GoodL n g
structure GoodP (n m : Nat) (r : Told × Sets × List (List Int)) : Prop where
  le : n ≤ r.2.1.length
  most : r.2.1.length ≤ m
  fol : GoodF r.2.1.length r.2.2
  first : GoodL r.2.1.length r.1.2.1
  last : GoodL r.2.1.length r.1.2.2

theorem GoodL.mono {n m : Nat} {l : List Int} (h : GoodL n l) (hm : n ≤ m) : GoodL m l := ⟨h.1, fun x hx => ⟨(h.2 x hx).1, by have := (h.2 x hx).2; omega⟩⟩
theorem GoodL.nil (n : Nat) : GoodL n [] := ⟨List.Pairwise.nil, fun x h => by cases h⟩
theorem GoodL.len {n : Nat} {l : List Int} (h : GoodL n l) : l.length ≤ n := rise_len h.1 h.2
theorem GoodL.with {n : Nat} {l m : List Int} (h : GoodL n l) (h2 : GoodL n m) : GoodL n (withL l m) :=
  ⟨withL_rise m l h.1, fun x hx => ((withL_mem m l x).mp hx).elim (h.2 x) (h2.2 x)⟩

theorem set_good {n : Nat} {F : List (List Int)} {g : List Int} (i : Nat) (h : GoodF n F) (hg : GoodL n g) : GoodF n (F.set i g) := by
  refine ⟨by rw [List.length_set]; exact h.1, fun x hx => ?_⟩
  rcases List.mem_or_eq_of_mem_set hx with hx | rfl
  · exact h.2 x hx
  · exact hg
theorem getD_good {n : Nat} {F : List (List Int)} (h : GoodF n F) (i : Nat) : GoodL n (F.getD i []) := by
  rw [List.getD_eq_getElem?_getD]
  cases hi : F[i]? with
  | none => exact GoodL.nil n
  | some g => exact h.2 g (List.mem_of_getElem? hi)
theorem chainP_good {n : Nat} {first : List Int} (hf : GoodL n first) : ∀ (last : List Int) (F : List (List Int)), GoodF n F → GoodF n (chainP F last first)
  | [], F, h => h
  | k :: last, F, h => chainP_good hf last _ (set_good _ h ((getD_good h _).with hf))

theorem snoc_good {n : Nat} {F : List (List Int)} (h : GoodF n F) : GoodF (n + 1) (F ++ [[]]) := by
  refine ⟨by rw [List.length_append, h.1]; rfl, fun g hg => ?_⟩
  rcases List.mem_append.mp hg with hg | hg
  · exact (h.2 g hg).mono (Nat.le_succ n)
  · rw [List.mem_singleton.mp hg]; exact GoodL.nil _

theorem catT_first {n : Nat} {a b : Told} (h1 : GoodL n a.2.1) (h2 : GoodL n b.2.1) : GoodL n (catT a b).2.1 := by
  obtain ⟨a0, a1, a2⟩ := a
  cases a0 with
  | false => exact h1
  | true => exact h1.with h2
theorem catT_last {n : Nat} {a b : Told} (h1 : GoodL n a.2.2) (h2 : GoodL n b.2.2) : GoodL n (catT a b).2.2 := by
  obtain ⟨b0, b1, b2⟩ := b
  cases b0 with
  | false => exact h2
  | true => exact h1.with h2

theorem catP_good : ∀ (l : List Pat) (hl : ∀ p ∈ l, ∀ S F, GoodF S.length F → GoodP S.length (S.length + p.parts) (partP p S F)) (o : Told) (S : Sets) (F : List (List Int)), GoodF S.length F → GoodL S.length o.2.1 → GoodL S.length o.2.2 →
    GoodP S.length (S.length + Pat.partsL l) (catP l o S F)
  | [], _, o, S, F, hF, h1, h2 => ⟨Nat.le_refl _, Nat.le_add_right _ _, hF, h1, h2⟩
  | p :: l, hl, o, S, F, hF, h1, h2 => by
    have hp := hl p List.mem_cons_self S F hF
    have h1' := h1.mono hp.le
    have h2' := h2.mono hp.le
    have r := catP_good l (fun q hq => hl q (List.mem_cons_of_mem _ hq)) (catT o (partP p S F).1) (partP p S F).2.1 (chainP (partP p S F).2.2 o.2.2 (partP p S F).1.2.1) (chainP_good hp.first _ _ hp.fol)
      (catT_first h1' hp.first) (catT_last h2' hp.last)
    have a := hp.le
    have b := hp.most
    have c := r.most
    rw [Pat.partsL]
    exact ⟨Nat.le_trans a r.le, by rw [catP]; omega, by rw [catP]; exact r.fol, by rw [catP]; exact r.first, by rw [catP]; exact r.last⟩

theorem altP_good : ∀ (l : List Pat) (hl : ∀ p ∈ l, ∀ S F, GoodF S.length F → GoodP S.length (S.length + p.parts) (partP p S F)) (o : Told) (S : Sets) (F : List (List Int)), GoodF S.length F → GoodL S.length o.2.1 → GoodL S.length o.2.2 →
    GoodP S.length (S.length + Pat.partsL l) (altP l o S F)
  | [], _, o, S, F, hF, h1, h2 => ⟨Nat.le_refl _, Nat.le_add_right _ _, hF, h1, h2⟩
  | p :: l, hl, o, S, F, hF, h1, h2 => by
    have hp := hl p List.mem_cons_self S F hF
    have h1' := h1.mono hp.le
    have h2' := h2.mono hp.le
    have r := altP_good l (fun q hq => hl q (List.mem_cons_of_mem _ hq)) (altT o (partP p S F).1) (partP p S F).2.1 (partP p S F).2.2 hp.fol (h1'.with hp.first) (h2'.with hp.last)
    have a := hp.le
    have b := hp.most
    have c := r.most
    rw [Pat.partsL]
    exact ⟨Nat.le_trans a r.le, by rw [altP]; omega, by rw [altP]; exact r.fol, by rw [altP]; exact r.first, by rw [altP]; exact r.last⟩

theorem one_good {n : Nat} : GoodL (n + 1) [(n : Int)] := ⟨List.pairwise_singleton _ _, fun x hx => by rw [List.mem_singleton.mp hx]; omega⟩

theorem partP_eq (p : Pat) (S : Sets) (F : List (List Int)) : partP p S F = if p.kind = 1 then ((false, [(S.length : Int)], [(S.length : Int)]), S ++ [normP p.set], F ++ [[]]) else if p.kind = 2 then catP p.subs (true, [], []) S F else if p.kind = 3 then altP p.subs (false, [], []) S F else starP p.subs S F := by
  cases p; rw [partP]; rfl

theorem partP_good (p : Pat) : ∀ S F, GoodF S.length F → GoodP S.length (S.length + p.parts) (partP p S F) := by
  refine Pat.induct (motive := fun p => ∀ S F, GoodF S.length F → GoodP S.length (S.length + p.parts) (partP p S F)) (fun p ih => ?_) p
  intro S F hF
  rw [partP_eq, p.parts_eq]
  split
  · have e : (S ++ [normP p.set]).length = S.length + 1 := by rw [List.length_append]; rfl
    exact ⟨by show _ ≤ (S ++ [normP p.set]).length; omega, by show (S ++ [normP p.set]).length ≤ _; omega, by show GoodF (S ++ [normP p.set]).length _; rw [e]; exact snoc_good hF, by show GoodL (S ++ [normP p.set]).length _; rw [e]; exact one_good, by show GoodL (S ++ [normP p.set]).length _; rw [e]; exact one_good⟩
  · split
    · have r := catP_good p.subs ih (true, [], []) S F hF (GoodL.nil _) (GoodL.nil _)
      exact ⟨r.le, by have := r.most; omega, r.fol, r.first, r.last⟩
    · split
      · have r := altP_good p.subs ih (false, [], []) S F hF (GoodL.nil _) (GoodL.nil _)
        exact ⟨r.le, by have := r.most; omega, r.fol, r.first, r.last⟩
      · cases hs : p.subs with
        | nil => rw [starP]; exact ⟨Nat.le_refl _, Nat.le_add_right _ _, hF, GoodL.nil _, GoodL.nil _⟩
        | cons q l =>
          have r := ih q (by rw [hs]; exact List.mem_cons_self) S F hF
          rw [starP, Pat.partsL]
          exact ⟨r.le, by have := r.most; show (partP q S F).2.1.length ≤ _; omega, chainP_good r.first _ _ r.fol, r.first, r.last⟩

/- the program's own -/
structure PartF (C : B0.Call) : Prop where
  with_ : ∀ l more, l.length < 274877906944 → more.length < 274877906944 → Rise l → pos_with.C C l more = some (withL l more)

theorem chain.loop {C : B0.Call} (hC : PartF C) (S : Sets) (e : Bool) (f l : List Int) (first last : List Int) (n : Nat) (hn : n < 274877906944) (hf : GoodL n first) (hl : ∀ x ∈ last, 0 ≤ x ∧ x < n) (hll : last.length < 274877906944) :
    ∀ (r : List Int) (i j : Nat) (F : List (List Int)), last.drop i = r → r.length < j → GoodF n F → pos_maker_chain.l1 (pos_maker_chain.R C j) S e f l F first last last.length i = some (S, e, f, l, chainP F r first) := by
  intro r
  induction r with
  | nil =>
    intro i j F hr hj hF
    obtain ⟨m, rfl, hm⟩ := succ_of hj
    rw [pos_maker_chain.s1, pos_maker_chain.t1, dec_ge (drop_nil' hr), cond_false]
    rfl
  | cons x r ih =>
    intro i j F hr hj hF
    obtain ⟨m, rfl, hm⟩ := succ_of hj
    obtain ⟨h1, h2, h3⟩ := drop_cons' hr
    rw [List.length_cons] at hj
    have hx := hl x (List.mem_of_getElem? h2)
    obtain ⟨y, rfl⟩ : ∃ y : Nat, x = (y : Int) := ⟨x.toNat, (Int.toNat_of_nonneg hx.1).symm⟩
    have hy : y < F.length := by rw [hF.1]; omega
    have hb : inB F.length (y : Int) = true := inB_ok (by omega) (by omega)
    have hg := hF.2 F[y] (List.getElem_mem hy)
    have hgl := hg.len
    have hfl := hf.len
    rw [pos_maker_chain.s1, pos_maker_chain.t1, dec_lt h1, cond_true, idx_nat, h2, Option.bind_some, hb, cond_true, idx_nat, List.getElem?_eq_getElem hy, Option.bind_some, hC.with_ _ _ (by omega) (by omega) hg.1, Option.bind_some, cond_true, Option.bind_some, wrapS i (by omega)]
    refine (ih (i + 1) m _ h3 (by omega) (set_good _ hF (hg.with hf))).trans ?_
    show some (S, e, f, l, chainP (F.set ((y : Int).toNat) (withL F[y] first)) r first) = some (S, e, f, l, chainP (F.set ((y : Int).toNat) (withL (F.getD ((y : Int).toNat) []) first)) r first)
    rw [Int.toNat_natCast, List.getD_eq_getElem?_getD, List.getElem?_eq_getElem hy]; rfl

theorem chain.spec {k : Nat} (hC : PartF (B0.call k)) (S : Sets) (e : Bool) (f l : List Int) (F : List (List Int)) (first last : List Int) (n : Nat) (hn : n < 274877906944) (hf : GoodL n first) (hl : GoodL n last) (hF : GoodF n F) (hk : n < k) :
    pos_maker_chain.C (B0.call (k + 1)) S e f l F last first = some (S, e, f, l, chainP F last first) := by
  rw [pos_maker_chain.s, pos_maker_chain.t]
  have := hl.len
  exact chain.loop hC S e f l first last n hn hf hl.2 (by omega) last 0 k F List.drop_zero (by omega) hF

theorem cat.spec {k : Nat} (hC : PartF (B0.call k)) (hC2 : PartF (B0.call (k + 1))) (S : Sets) (e : Bool) (f l : List Int) (F : List (List Int)) (a b : Told) (n : Nat) (hn : n < 274877906944) (h1 : GoodL n a.2.1) (h2 : GoodL n a.2.2) (h3 : GoodL n b.2.1) (h4 : GoodL n b.2.2) (hF : GoodF n F) (hk : n < k) :
    pos_maker_cat.C (B0.call (k + 2)) S e f l F a.1 a.2.1 a.2.2 b.1 b.2.1 b.2.2 = some ((catT a b).1, (catT a b).2.1, (catT a b).2.2, S, e, f, l, chainP F a.2.2 b.2.1) := by
  obtain ⟨a0, a1, a2⟩ := a
  obtain ⟨b0, b1, b2⟩ := b
  have l1 : a1.length ≤ n := h1.len
  have l2 : a2.length ≤ n := h2.len
  have l3 : b1.length ≤ n := h3.len
  have l4 : b2.length ≤ n := h4.len
  rw [pos_maker_cat.s, pos_maker_cat.t, chain.spec hC S e f l F b1 a2 n hn h3 h2 hF hk, Option.bind_some, hC2.with_ a1 b1 (by show a1.length < _; omega) (by show b1.length < _; omega) h1.1, hC2.with_ a2 b2 (by show a2.length < _; omega) (by show b2.length < _; omega) h2.1]
  cases a0 <;> cases b0 <;> rfl

def outP (e : Bool) (f l : List Int) (r : Told × Sets × List (List Int)) : Bool × List Int × List Int × Sets × Bool × List Int × List Int × List (List Int) := (r.1.1, r.1.2.1, r.1.2.2, r.2.1, e, f, l, r.2.2)

def PartOk (C : B0.Call) (q : Pat) : Prop := ∀ (S : Sets) (e : Bool) (f l : List Int) (F : List (List Int)), GoodF S.length F → S.length + q.parts ≤ 10000 → pos_maker_part.C C S e f l F q.kind q.set q.subs = some (outP e f l (partP q S F))

theorem cat.loop {k : Nat} (hC : PartF (B0.call k)) (hC2 : PartF (B0.call (k + 1))) (hk : 10000 < k) (ps : List Pat) (hps : ps.length < 9223372036854775807) (h : ∀ q ∈ ps, PartOk (B0.call (k + 2)) q) (e : Bool) (f l : List Int) (x : Bool) (y z : List Int) :
    ∀ (r : List Pat) (i j : Nat) (o : Told) (S : Sets) (F : List (List Int)), ps.drop i = r → r.length < j → GoodF S.length F → GoodL S.length o.2.1 → GoodL S.length o.2.2 → S.length + Pat.partsL r ≤ 10000 →
      pos_maker_part.l10 (pos_maker_part.R (B0.call (k + 2)) j) S e f l F x y z o.1 o.2.1 o.2.2 ps ps.length i = some (outP e f l (catP r o S F)) := by
  intro r
  induction r with
  | nil =>
    intro i j o S F hr hj hF h1 h2 hs
    obtain ⟨m, rfl, hm⟩ := succ_of hj
    rw [pos_maker_part.s10, pos_maker_part.t10, dec_ge (drop_nil' hr), cond_false, catP]
    rfl
  | cons p r ih =>
    intro i j o S F hr hj hF h1 h2 hs
    obtain ⟨m, rfl, hm⟩ := succ_of hj
    obtain ⟨g1, g2, g3⟩ := drop_cons' hr
    rw [List.length_cons] at hj
    rw [Pat.partsL] at hs
    have hp := partP_good p S F hF
    have hle := hp.le
    have hmo := hp.most
    rw [pos_maker_part.s10, pos_maker_part.t10, dec_lt g1, cond_true, idx_nat, g2, Option.bind_some, h p (List.mem_of_getElem? g2) S e f l F hF (by omega), Option.bind_some]
    have hc := cat.spec hC hC2 (partP p S F).2.1 e f l (partP p S F).2.2 o (partP p S F).1 (partP p S F).2.1.length (by omega) (h1.mono hle) (h2.mono hle) hp.first hp.last hp.fol (by omega)
    have hc : pos_maker_cat.C (B0.call (k + 2)) (outP e f l (partP p S F)).2.2.2.1 (outP e f l (partP p S F)).2.2.2.2.1 (outP e f l (partP p S F)).2.2.2.2.2.1 (outP e f l (partP p S F)).2.2.2.2.2.2.1 (outP e f l (partP p S F)).2.2.2.2.2.2.2 o.1 o.2.1 o.2.2 (outP e f l (partP p S F)).1 (outP e f l (partP p S F)).2.1 (outP e f l (partP p S F)).2.2.1 = _ := hc
    rw [hc, Option.bind_some, wrapS i (by omega), catP]
    exact ih (i + 1) m (catT o (partP p S F).1) (partP p S F).2.1 (chainP (partP p S F).2.2 o.2.2 (partP p S F).1.2.1) g3 (by omega) (chainP_good hp.first _ _ hp.fol) (catT_first (h1.mono hle) hp.first) (catT_last (h2.mono hle) hp.last) (by omega)

theorem alt.loop {k : Nat} (hC : PartF (B0.call k)) (ps : List Pat) (hps : ps.length < 9223372036854775807) (h : ∀ q ∈ ps, PartOk (B0.call k) q) (e : Bool) (f l : List Int) (x : Bool) (y z : List Int) :
    ∀ (r : List Pat) (i j : Nat) (o : Told) (S : Sets) (F : List (List Int)), ps.drop i = r → r.length < j → GoodF S.length F → GoodL S.length o.2.1 → GoodL S.length o.2.2 → S.length + Pat.partsL r ≤ 10000 →
      pos_maker_part.l18 (pos_maker_part.R (B0.call k) j) S e f l F x y z o.1 o.2.1 o.2.2 ps ps.length i = some (outP e f l (altP r o S F)) := by
  intro r
  induction r with
  | nil =>
    intro i j o S F hr hj hF h1 h2 hs
    obtain ⟨m, rfl, hm⟩ := succ_of hj
    rw [pos_maker_part.s18, pos_maker_part.t18, dec_ge (drop_nil' hr), cond_false, altP]
    rfl
  | cons p r ih =>
    intro i j o S F hr hj hF h1 h2 hs
    obtain ⟨m, rfl, hm⟩ := succ_of hj
    obtain ⟨g1, g2, g3⟩ := drop_cons' hr
    rw [List.length_cons] at hj
    rw [Pat.partsL] at hs
    have hp := partP_good p S F hF
    have hle := hp.le
    have hmo := hp.most
    have h1' := h1.mono hle
    have h2' := h2.mono hle
    have a1 := h1'.len
    have a2 := h2'.len
    have a3 := hp.first.len
    have a4 := hp.last.len
    have key := ih (i + 1) m (altT o (partP p S F).1) (partP p S F).2.1 (partP p S F).2.2 g3 (by omega) hp.fol (h1'.with hp.first) (h2'.with hp.last) (by omega)
    have w1 : pos_with.C (B0.call k) o.2.1 (outP e f l (partP p S F)).2.1 = some (withL o.2.1 (partP p S F).1.2.1) := hC.with_ _ _ (by omega) (by show (partP p S F).1.2.1.length < _; omega) h1.1
    have w2 : pos_with.C (B0.call k) o.2.2 (outP e f l (partP p S F)).2.2.1 = some (withL o.2.2 (partP p S F).1.2.2) := hC.with_ _ _ (by omega) (by show (partP p S F).1.2.2.length < _; omega) h2.1
    rw [pos_maker_part.s18, pos_maker_part.t18, dec_lt g1, cond_true, idx_nat, g2, Option.bind_some, h p (List.mem_of_getElem? g2) S e f l F hF (by omega), Option.bind_some, w1, w2, wrapS i (by omega), altP]
    obtain ⟨o0, o1, o2⟩ := o
    cases o0 with
    | false => exact key
    | true => exact key

structure NormF (C : B0.Call) : Prop where
  norm : ∀ s, s.length ≤ 256 → span_Norm.C C s = some (normP s)

theorem partF_ok (k : Nat) (hk : 1099511627776 + 3 < k) : PartF (B0.call (k + 1)) := ⟨fun l m h1 h2 h3 => pos_with.spec l m k hk h1 h2 h3⟩
theorem normF_ok (k : Nat) (hk : 1000 < k) : NormF (B0.call (k + 1)) := ⟨fun s hs => span_Norm.spec s (by omega) k (by omega)⟩

theorem fits_sub {p : Pat} (h : p.fits = true) : ∀ q ∈ p.subs, q.fits = true := by
  intro q hq
  rw [p.fits_eq] at h
  split at h
  · have h1 : p.subs.length = 0 := by
      have := (Bool.and_eq_true _ _).mp h
      simpa using this.1
    rw [List.eq_nil_of_length_eq_zero h1] at hq
    cases hq
  · split at h
    · have := (Bool.and_eq_true _ _).mp h
      rw [Pat.fitsL_all] at this
      exact List.all_eq_true.mp this.2 q hq
    · cases h

theorem part.spec : ∀ (n : Nat) (p : Pat) (k : Nat), p.parts ≤ n → p.fits = true → 2199023255552 + 8 * n < k → PartOk (B0.call k) p := by
  intro n
  induction n with
  | zero => intro p k h; have := p.parts_pos; omega
  | succ n ih =>
    intro p k hp hfit hk S e f l F hF hs
    obtain ⟨k, rfl⟩ : ∃ m, k = m + 4 := ⟨k - 4, by omega⟩
    have hsub : ∀ q ∈ p.subs, PartOk (B0.call (k + 3)) q := fun q hq => ih q (k + 3) (by have := Pat.parts_sub hq; omega) (fits_sub hfit q hq) (by omega)
    have e1 := p.parts_eq
    have e2 := Pat.partsL_len p.subs
    have hL := hF.1
    have f1 := partF_ok k (by omega)
    have f2 := partF_ok (k + 1) (by omega)
    have f3 := partF_ok (k + 2) (by omega)
    rw [pos_maker_part.s, pos_maker_part.t, partP_eq]
    by_cases k1 : p.kind = 1
    · have hset : p.set.length ≤ 256 := by
        rw [p.fits_eq, if_pos k1] at hfit
        have := (Bool.and_eq_true _ _).mp hfit
        simpa using this.2
      rw [show (p.kind == 1) = true from by simp [k1], cond_true, (normF_ok (k + 2) (by omega)).norm p.set hset, Option.bind_some, if_pos k1, room_ok (by show (S.length + 1) * 24 < _; omega), room_ok (by omega)]
      rfl
    · rw [show (p.kind == 1) = false from by simp [k1], cond_false, if_neg k1]
      by_cases k2 : p.kind = 2
      · rw [show (p.kind == 2) = true from by simp [k2], cond_true, if_pos k2]
        exact cat.loop (k := k + 1) f1 f2 (by omega) p.subs (by omega) hsub e f l false [] [] p.subs 0 (k + 3) (true, [], []) S F List.drop_zero (by omega) hF (GoodL.nil _) (GoodL.nil _) (by omega)
      · rw [show (p.kind == 2) = false from by simp [k2], cond_false, if_neg k2]
        by_cases k3 : p.kind = 3
        · rw [show (p.kind == 3) = true from by simp [k3], cond_true, if_pos k3]
          exact alt.loop (k := k + 3) f3 p.subs (by omega) hsub e f l false [] [] p.subs 0 (k + 3) (false, [], []) S F List.drop_zero (by omega) hF (GoodL.nil _) (GoodL.nil _) (by omega)
        · rw [show (p.kind == 3) = false from by simp [k3], cond_false, if_neg k3]
          have hone : ∃ q, p.subs = [q] := by
            rw [p.fits_eq, if_neg k1] at hfit
            split at hfit
            · rename_i hk4
              have k4 : p.kind = 4 := by omega
              have h5 := (Bool.and_eq_true _ _).mp hfit
              have h6 := ((Bool.and_eq_true _ _).mp h5.1).2
              have h7 : p.subs.length = 1 := by simpa [k4] using h6
              match h8 : p.subs, h7 with
              | [q], _ => exact ⟨q, rfl⟩
            · cases hfit
          obtain ⟨q, hq⟩ := hone
          have hqs := hsub q (by rw [hq]; exact List.mem_cons_self) S e f l F hF (by have := Pat.parts_sub (p := p) (q := q) (by rw [hq]; exact List.mem_cons_self); omega)
          have hg := partP_good q S F hF
          have hmo := hg.most
          have hpa := Pat.parts_sub (p := p) (q := q) (by rw [hq]; exact List.mem_cons_self)
          rw [hq, idx_zero]
          show Option.bind (some q) _ = _
          rw [Option.bind_some, hqs, Option.bind_some]
          have hc := chain.spec (k := k + 2) f2 (partP q S F).2.1 e f l (partP q S F).2.2 (partP q S F).1.2.1 (partP q S F).1.2.2 (partP q S F).2.1.length (by omega) hg.first hg.last hg.fol (by omega)
          have hc : pos_maker_chain.C (B0.call (k + 3)) (outP e f l (partP q S F)).2.2.2.1 (outP e f l (partP q S F)).2.2.2.2.1 (outP e f l (partP q S F)).2.2.2.2.2.1 (outP e f l (partP q S F)).2.2.2.2.2.2.1 (outP e f l (partP q S F)).2.2.2.2.2.2.2 (outP e f l (partP q S F)).2.2.1 (outP e f l (partP q S F)).2.1 = _ := hc
          rw [hc, Option.bind_some, starP]
          rfl

/- pos.Of -/
theorem pos_Of.right (p : Pat) (hr : p.right = true) (k : Nat) (hk : 2199023255552 + 8 * 200 < k) :
    pos_Of.C (B0.call (k + 1)) p.kind p.set p.subs = some ((partP p [] []).2.1, (partP p [] []).1.1, (partP p [] []).1.2.1, (partP p [] []).1.2.2, (partP p [] []).2.2, 0) := by
  have h1 := (Bool.and_eq_true _ _).mp hr
  have h2 := (Bool.and_eq_true _ _).mp h1.1
  have hpa : p.parts ≤ 200 := of_decide_eq_true h2.1
  have hg := partP_good p [] [] ⟨rfl, fun g hg => by cases hg⟩
  have hmo : (partP p [] []).2.1.length ≤ 0 + p.parts := hg.most
  have l1 := hg.first.len
  have l2 := hg.last.len
  obtain ⟨m, rfl⟩ : ∃ m, k = m + 1 := ⟨k - 1, by omega⟩
  rw [pos_Of.s, pos_Of.t, pat_Right.specP p (m + 1) (by omega) (by omega), Option.bind_some, hr]
  have hp := part.spec p.parts p (m + 1) (Nat.le_refl _) h1.2 (by omega) [] false [] [] [] ⟨rfl, fun g hg => by cases hg⟩ (by show 0 + p.parts ≤ _; omega)
  rw [Bool.not_true, cond_false, hp, Option.bind_some]
  have c1 : slices_Clone_int_int.C (B0.call (m + 1)) (outP false [] [] (partP p [] [])).2.1 = some (partP p [] []).1.2.1 := clone_int m _ (by show (partP p [] []).1.2.1.length < _; omega)
  have c2 : slices_Clone_int_int.C (B0.call (m + 1)) (outP false [] [] (partP p [] [])).2.2.1 = some (partP p [] []).1.2.2 := clone_int m _ (by show (partP p [] []).1.2.2.length < _; omega)
  rw [c1, c2]
  simp only [Option.bind_some, outP]

theorem pos_Of.wrong (p : Pat) (hn : p.parts < 4611686018427387904) (hr : p.right = false) (k : Nat) (hk : 5 * p.parts + 1 < k) : pos_Of.C (B0.call (k + 1)) p.kind p.set p.subs = some ([], false, [], [], [], 4) := by
  rw [pos_Of.s, pos_Of.t, pat_Right.specP p k hk hn, Option.bind_some, hr, Bool.not_false, cond_true]

end Go.Proofs.Ytoifbdaaiejbnaa.D
/- What a pattern takes, and that its positions take the same. -/
namespace Go.Proofs.Ytoifbdaaiejbnaa.D
open Go

inductive StarL (A : List Int → Prop) : List Int → Prop
  | nil : StarL A []
  | cons (u v : List Int) (h : A u) (t : StarL A v) : StarL A (u ++ v)

def inSet (s : List (Int × Int)) (n : Int) : Prop := ∃ x, x ∈ s ∧ x.1 ≤ n ∧ n ≤ x.2

mutual
def Lang : Pat → List Int → Prop
  | .mk k s l => fun w => (k = 1 ∧ ∃ n, w = [n] ∧ inSet s n) ∨ (k = 2 ∧ LangC l w) ∨ (k = 3 ∧ LangA l w) ∨ (k = 4 ∧ LangS l w)
def LangC : List Pat → List Int → Prop
  | [] => fun w => w = []
  | p :: l => fun w => ∃ u v, w = u ++ v ∧ Lang p u ∧ LangC l v
def LangA : List Pat → List Int → Prop
  | [] => fun _ => False
  | p :: l => fun w => Lang p w ∨ LangA l w
def LangS : List Pat → List Int → Prop
  | [] => fun w => w = []
  | p :: _ => fun w => StarL (Lang p) w
end

theorem Lang_eq (p : Pat) (w : List Int) : Lang p w ↔ (p.kind = 1 ∧ ∃ n, w = [n] ∧ inSet p.set n) ∨ (p.kind = 2 ∧ LangC p.subs w) ∨ (p.kind = 3 ∧ LangA p.subs w) ∨ (p.kind = 4 ∧ LangS p.subs w) := by
  cases p; rw [Lang]; rfl

/- an automaton of positions -/
def Tail (S : Sets) (F : List (List Int)) (last : List Int) : List Int → Int → Prop
  | [], k => k ∈ last
  | n :: w, k => ∃ m, m ∈ F.getD k.toNat [] ∧ inSet (S.getD m.toNat []) n ∧ Tail S F last w m
def Auto (x : Told) (S : Sets) (F : List (List Int)) : List Int → Prop
  | [] => x.1 = true
  | n :: w => ∃ k, k ∈ x.2.1 ∧ inSet (S.getD k.toNat []) n ∧ Tail S F x.2.2 w k

theorem tail_same {S S' : Sets} {F F' : List (List Int)} {last last' : List Int} (P : Int → Prop) (hc : ∀ k, P k → ∀ m, m ∈ F.getD k.toNat [] → P m) (hF : ∀ k, P k → F'.getD k.toNat [] = F.getD k.toNat [])
    (hS : ∀ k, P k → S'.getD k.toNat [] = S.getD k.toNat []) (hl : ∀ k, P k → (k ∈ last' ↔ k ∈ last)) : ∀ (w : List Int) (k : Int), P k → (Tail S' F' last' w k ↔ Tail S F last w k)
  | [], k, hk => hl k hk
  | n :: w, k, hk => by
    rw [Tail, Tail, hF k hk]
    constructor
    · rintro ⟨m, h1, h2, h3⟩
      have hm := hc k hk m h1
      exact ⟨m, h1, by rw [← hS m hm]; exact h2, (tail_same P hc hF hS hl w m hm).mp h3⟩
    · rintro ⟨m, h1, h2, h3⟩
      have hm := hc k hk m h1
      exact ⟨m, h1, by rw [hS m hm]; exact h2, (tail_same P hc hF hS hl w m hm).mpr h3⟩

structure Grow (S : Sets) (F : List (List Int)) (S' : Sets) (F' : List (List Int)) : Prop where
  le : S.length ≤ S'.length
  sets : ∀ k : Int, 0 ≤ k → k < S.length → S'.getD k.toNat [] = S.getD k.toNat []
  fol : ∀ k : Int, 0 ≤ k → k < S.length → F'.getD k.toNat [] = F.getD k.toNat []

theorem Grow.refl (S : Sets) (F : List (List Int)) : Grow S F S F := ⟨Nat.le_refl _, fun _ _ _ => rfl, fun _ _ _ => rfl⟩
theorem Grow.trans {S S1 S2 : Sets} {F F1 F2 : List (List Int)} (h : Grow S F S1 F1) (h2 : Grow S1 F1 S2 F2) : Grow S F S2 F2 :=
  ⟨Nat.le_trans h.le h2.le, fun k h0 hk => (h2.sets k h0 (by have := h.le; omega)).trans (h.sets k h0 hk), fun k h0 hk => (h2.fol k h0 (by have := h.le; omega)).trans (h.fol k h0 hk)⟩

structure Glu (A : List Int → Prop) (a : Nat) (x : Told) (S : Sets) (F : List (List Int)) : Prop where
  le : a ≤ S.length
  good : GoodF S.length F
  first : ∀ k, k ∈ x.2.1 → (a : Int) ≤ k ∧ k < S.length
  last : ∀ k, k ∈ x.2.2 → (a : Int) ≤ k ∧ k < S.length
  inner : ∀ k : Int, (a : Int) ≤ k → k < S.length → ∀ m, m ∈ F.getD k.toNat [] → (a : Int) ≤ m ∧ m < S.length
  lang : ∀ w, Auto x S F w ↔ A w

theorem chainP_mem (first : List Int) : ∀ (last : List Int) (F : List (List Int)), (∀ x, x ∈ last → 0 ≤ x ∧ x < F.length) → ∀ (k : Int), 0 ≤ k → k < F.length → ∀ m, m ∈ (chainP F last first).getD k.toNat [] ↔ m ∈ F.getD k.toNat [] ∨ (k ∈ last ∧ m ∈ first)
  | [], F, _, k, h0, hk, m => ⟨Or.inl, fun h => h.elim id (fun h => by cases h.1)⟩
  | q :: last, F, hl, k, h0, hk, m => by
    have hq := hl q List.mem_cons_self
    have ih := chainP_mem first last (F.set q.toNat (withL (F.getD q.toNat []) first)) (fun x hx => by rw [List.length_set]; exact hl x (List.mem_cons_of_mem _ hx)) k h0 (by rw [List.length_set]; exact hk) m
    rw [show chainP F (q :: last) first = chainP (F.set q.toNat (withL (F.getD q.toNat []) first)) last first from rfl, ih]
    by_cases e : k = q
    · subst e
      have e1 : (F.set k.toNat (withL (F.getD k.toNat []) first)).getD k.toNat [] = withL (F.getD k.toNat []) first := by
        rw [List.getD_eq_getElem?_getD, List.getElem?_set_self (by omega)]; rfl
      rw [e1, withL_mem]
      constructor
      · rintro ((h | h) | h)
        · exact Or.inl h
        · exact Or.inr ⟨List.mem_cons_self, h⟩
        · exact Or.inr ⟨List.mem_cons_self, h.2⟩
      · rintro (h | h)
        · exact Or.inl (Or.inl h)
        · exact Or.inl (Or.inr h.2)
    · have e1 : (F.set q.toNat (withL (F.getD q.toNat []) first)).getD k.toNat [] = F.getD k.toNat [] := by
        rw [List.getD_eq_getElem?_getD, List.getElem?_set_ne (fun h => e (by omega)), ← List.getD_eq_getElem?_getD]
      rw [e1, List.mem_cons]
      constructor
      · rintro (h | h)
        · exact Or.inl h
        · exact Or.inr ⟨Or.inr h.1, h.2⟩
      · rintro (h | ⟨h | h, h2⟩)
        · exact Or.inl h
        · exact absurd h e
        · exact Or.inr ⟨h, h2⟩

theorem chainP_out (first : List Int) (last : List Int) (F : List (List Int)) (hl : ∀ x, x ∈ last → 0 ≤ x) (k : Int) (h0 : 0 ≤ k) (hk : k ∉ last) : (chainP F last first).getD k.toNat [] = F.getD k.toNat [] := by
  induction last generalizing F with
  | nil => rfl
  | cons q last ih =>
    rw [show chainP F (q :: last) first = chainP (F.set q.toNat (withL (F.getD q.toNat []) first)) last first from rfl, ih _ (fun x hx => hl x (List.mem_cons_of_mem _ hx)) (fun h => hk (List.mem_cons_of_mem _ h))]
    have hq := hl q List.mem_cons_self
    have e : k ≠ q := fun e => hk (by rw [e]; exact List.mem_cons_self)
    rw [List.getD_eq_getElem?_getD, List.getElem?_set_ne (by omega), ← List.getD_eq_getElem?_getD]

/- one behind the other -/
theorem glu_cat {A B : List Int → Prop} {a : Nat} {x y : Told} {S S' : Sets} {F F' : List (List Int)} (h1 : Glu A a x S F) (h2 : Glu B S.length y S' F') (hg : Grow S F S' F') (hy1 : GoodL S'.length y.2.1) :
    Glu (fun w => ∃ u v, w = u ++ v ∧ A u ∧ B v) a (catT x y) S' (chainP F' x.2.2 y.2.1) := by
  have hle := hg.le
  have ha := h1.le
  have fl : F'.length = S'.length := h2.good.1
  have lastb : ∀ k, k ∈ x.2.2 → 0 ≤ k ∧ k < F'.length := fun k hk => by have := h1.last k hk; omega
  have Fm := chainP_mem y.2.1 x.2.2 F' lastb
  -- in the second part all is as it was
  have second : ∀ w k, ((S.length : Int) ≤ k ∧ k < S'.length) → (Tail S' (chainP F' x.2.2 y.2.1) (catT x y).2.2 w k ↔ Tail S' F' y.2.2 w k) :=
    tail_same (fun k => (S.length : Int) ≤ k ∧ k < S'.length) (fun k hk m hm => h2.inner k hk.1 hk.2 m hm) (fun k hk => chainP_out _ _ _ (fun z hz => (lastb z hz).1) k (by omega) (fun h => by have := h1.last k h; omega)) (fun k hk => rfl) (fun k hk => by
      have hno : k ∉ x.2.2 := fun h => by have := h1.last k h; omega
      obtain ⟨y0, y1, y2⟩ := y
      cases y0 with
      | false => exact Iff.rfl
      | true => exact (withL_mem y2 x.2.2 k).trans ⟨fun h => h.elim (fun h => absurd h hno) id, Or.inr⟩)
  have lastIn : ∀ k : Int, k < S.length → (k ∈ (catT x y).2.2 ↔ y.1 = true ∧ k ∈ x.2.2) := fun k hk => by
    have hno : k ∉ y.2.2 := fun h => by have := h2.last k h; omega
    obtain ⟨y0, y1, y2⟩ := y
    cases y0 with
    | false => exact ⟨fun h => absurd h hno, fun h => by cases h.1⟩
    | true => exact (withL_mem y2 x.2.2 k).trans ⟨fun h => h.elim (fun h => ⟨rfl, h⟩) (fun h => absurd h hno), fun h => Or.inl h.2⟩
  have setsIn : ∀ k : Int, (a : Int) ≤ k → k < S.length → S'.getD k.toNat [] = S.getD k.toNat [] := fun k h0 hk => hg.sets k (by omega) hk
  have first : ∀ w k, ((a : Int) ≤ k ∧ k < S.length) → (Tail S' (chainP F' x.2.2 y.2.1) (catT x y).2.2 w k ↔ ∃ u v, w = u ++ v ∧ Tail S F x.2.2 u k ∧ B v) := by
    intro w
    induction w with
    | nil =>
      intro k hk
      rw [Tail, lastIn k hk.2]
      constructor
      · rintro ⟨h3, h4⟩
        exact ⟨[], [], rfl, h4, (h2.lang []).mp h3⟩
      · rintro ⟨u, v, h3, h4, h5⟩
        obtain ⟨rfl, rfl⟩ := List.append_eq_nil_iff.mp h3.symm
        exact ⟨(h2.lang []).mpr h5, h4⟩
    | cons n w ih =>
      intro k hk
      rw [Tail]
      constructor
      · rintro ⟨m, h3, h4, h5⟩
        rcases (Fm k (by omega) (by omega) m).mp h3 with h3 | ⟨h3, h6⟩
        · rw [hg.fol k (by omega) hk.2] at h3
          have hm := h1.inner k hk.1 hk.2 m h3
          obtain ⟨u, v, e1, e2, e3⟩ := (ih m hm).mp h5
          exact ⟨n :: u, v, by rw [e1]; rfl, ⟨m, h3, by rw [← setsIn m hm.1 hm.2]; exact h4, e2⟩, e3⟩
        · have hm := h2.first m h6
          exact ⟨[], n :: w, rfl, h3, (h2.lang (n :: w)).mp ⟨m, h6, h4, (second w m hm).mp h5⟩⟩
      · rintro ⟨u, v, e1, e2, e3⟩
        cases u with
        | nil =>
          have e1 : n :: w = v := e1
          subst e1
          obtain ⟨m, h6, h4, h5⟩ := (h2.lang (n :: w)).mpr e3
          exact ⟨m, (Fm k (by omega) (by omega) m).mpr (Or.inr ⟨e2, h6⟩), h4, (second w m (h2.first m h6)).mpr h5⟩
        | cons n' u =>
          have e1 : n :: w = n' :: (u ++ v) := e1
          obtain ⟨rfl, rfl⟩ := List.cons.inj e1
          obtain ⟨m, h3, h4, h5⟩ := e2
          have hm := h1.inner k hk.1 hk.2 m h3
          refine ⟨m, (Fm k (by omega) (by omega) m).mpr (Or.inl ?_), by rw [setsIn m hm.1 hm.2]; exact h4, (ih m hm).mpr ⟨u, v, rfl, h5, e3⟩⟩
          rw [hg.fol k (by omega) hk.2]; exact h3
  have memFirst : ∀ k, k ∈ (catT x y).2.1 ↔ k ∈ x.2.1 ∨ (x.1 = true ∧ k ∈ y.2.1) := fun k => by
    obtain ⟨x0, x1, x2⟩ := x
    cases x0 with
    | false => exact ⟨Or.inl, fun h => h.elim id (fun h => by cases h.1)⟩
    | true => exact (withL_mem y.2.1 x1 k).trans ⟨fun h => h.elim Or.inl (fun h => Or.inr ⟨rfl, h⟩), fun h => h.elim Or.inl (fun h => Or.inr h.2)⟩
  have memLast : ∀ k, k ∈ (catT x y).2.2 → k ∈ x.2.2 ∨ k ∈ y.2.2 := fun k => by
    obtain ⟨y0, y1, y2⟩ := y
    cases y0 with
    | false => exact Or.inr
    | true => exact (withL_mem y2 x.2.2 k).mp
  refine ⟨by omega, chainP_good hy1 _ _ h2.good, fun k hk => ?_, fun k hk => ?_, fun k hk hk2 m hm => ?_, fun w => ?_⟩
  · rcases (memFirst k).mp hk with h | h
    · have := h1.first k h; omega
    · have := h2.first k h.2; omega
  · rcases memLast k hk with h | h
    · have := h1.last k h; omega
    · have := h2.last k h; omega
  · rcases (Fm k (by omega) (by omega) m).mp hm with h | h
    · by_cases hlt : k < S.length
      · rw [hg.fol k (by omega) hlt] at h
        have := h1.inner k hk hlt m h; omega
      · have := h2.inner k (by omega) hk2 m h; omega
    · have := h2.first m h.2; omega
  · cases w with
    | nil =>
      constructor
      · intro h
        have h : (x.1 && y.1) = true := h
        rw [Bool.and_eq_true] at h
        exact ⟨[], [], rfl, (h1.lang []).mp h.1, (h2.lang []).mp h.2⟩
      · rintro ⟨u, v, e1, e2, e3⟩
        obtain ⟨rfl, rfl⟩ := List.append_eq_nil_iff.mp e1.symm
        show (x.1 && y.1) = true
        rw [Bool.and_eq_true]
        exact ⟨(h1.lang []).mpr e2, (h2.lang []).mpr e3⟩
    | cons n w =>
      constructor
      · rintro ⟨k, h3, h4, h5⟩
        rcases (memFirst k).mp h3 with h | ⟨h, h6⟩
        · have hk := h1.first k h
          obtain ⟨u, v, e1, e2, e3⟩ := (first w k hk).mp h5
          exact ⟨n :: u, v, by rw [e1]; rfl, (h1.lang (n :: u)).mp ⟨k, h, by rw [← setsIn k hk.1 hk.2]; exact h4, e2⟩, e3⟩
        · exact ⟨[], n :: w, rfl, (h1.lang []).mp h, (h2.lang (n :: w)).mp ⟨k, h6, h4, (second w k (h2.first k h6)).mp h5⟩⟩
      · rintro ⟨u, v, e1, e2, e3⟩
        cases u with
        | nil =>
          have e1 : n :: w = v := e1
          subst e1
          obtain ⟨k, h6, h4, h5⟩ := (h2.lang (n :: w)).mpr e3
          exact ⟨k, (memFirst k).mpr (Or.inr ⟨(h1.lang []).mpr e2, h6⟩), h4, (second w k (h2.first k h6)).mpr h5⟩
        | cons n' u =>
          have e1 : n :: w = n' :: (u ++ v) := e1
          obtain ⟨rfl, rfl⟩ := List.cons.inj e1
          obtain ⟨k, h6, h4, h5⟩ := (h1.lang (n :: u)).mpr e2
          have hk := h1.first k h6
          exact ⟨k, (memFirst k).mpr (Or.inl h6), by rw [setsIn k hk.1 hk.2]; exact h4, (first (u ++ v) k hk).mpr ⟨u, v, rfl, h5, e3⟩⟩

end Go.Proofs.Ytoifbdaaiejbnaa.D
/- What a row hands over, opened to data: numbers, slices, patterns. -/
namespace Go.Proofs.Ytoifbdaaiejbnaa.D
open Go Go.RowKit Go.ChangeShapes Go.WideShapes

section
variable {H : Type} {enc : TypeId × Value → H} {P : Program} {w : World} {base : Nat} {spare : Nat → Bool} {held : Bool}

theorem pick_all {α : Type} {Q : Nat → α → Prop} : ∀ n : Nat, (∀ i, i < n → ∃ x, Q i x) → ∃ xs : List α, xs.length = n ∧ ∀ i x, xs[i]? = some x → Q i x
  | 0, _ => ⟨[], rfl, fun i x h => by simp at h⟩
  | n + 1, h => by
    obtain ⟨xs, hl, hx⟩ := pick_all n (fun i hi => h i (by omega))
    obtain ⟨x, hxn⟩ := h n (by omega)
    refine ⟨xs ++ [x], by simp [hl], fun i z hz => ?_⟩
    by_cases hi : i < n
    · rw [List.getElem?_append_left (by omega)] at hz
      exact hx i z hz
    · rw [List.getElem?_append_right (by omega)] at hz
      have hi0 : i - xs.length = 0 := by
        have := (List.getElem?_eq_some_iff.1 hz).1
        simp at this
        omega
      rw [hi0] at hz
      have : x = z := by simpa using hz
      subst this
      have : i = n := by omega
      subst this
      exact hxn

theorem opens_sl {α : Type} (cells : α → List Cell) (mk : List α → Cell) {T e sz fuel : Nat} {good : α → Prop} (ht : P.underlying T = some (.slice e)) (hce : P.cellsOf e = sz) (hsz : 0 < sz) (hcl : ∀ x, (cells x).length = sz)
    (hmk : ∀ l, elems (mk l) = some (l.map cells)) (hes : ∀ l, esize (mk l).c = sz)
    (ho : ∀ n, n < fuel → ∀ cs y, DataW.trod enc P w base spare held n e cs = some y → ∃ x, cs.length = sz ∧ (∀ (j : Nat) c v, (cells x)[j]? = some c → cs[j]? = some v → RepC w (Old w) c v) ∧ good x)
    {cs : List Value} {y : DataW H × List MemPlace} (h : DataW.trod enc P w base spare held fuel T cs = some y) :
    ∃ (l : List α) (v : Value), cs = [v] ∧ RepC w (Old w) (mk l) v ∧ (∀ x ∈ l, good x) ∧ l.length ≤ maxLen := by
  rcases DataW.trod_slice ht h with ⟨rfl, _⟩ | ⟨a, len, cap, els, rest, n, hf, rfl, _, hb, hl, hm, hlen, hel, _, _⟩
  · refine ⟨[], _, rfl, ?_, fun x hx => (List.not_mem_nil hx).elim, Nat.zero_le _⟩
    exact .sl (mk []) [] none 0 0 0 (fun _ _ => .bool false) (hmk []) (Nat.le_refl 0) (fun e => absurd rfl e) (fun i j l x h1 => by cases h1) (fun i j l x h1 => by cases h1)
  · have each : ∀ i, i < len → ∃ q : α × List Value, w.cells? base (a.add (i * sz)) sz = some q.2 ∧ q.2.length = sz ∧ (∀ (j : Nat) c v, (cells q.1)[j]? = some c → q.2[j]? = some v → RepC w (Old w) c v) ∧ good q.1 := fun i hi => by
      have h1 := hel i hi
      rw [List.getElem?_eq_getElem (by omega), hce] at h1
      obtain ⟨cs', h2, h3⟩ := Option.bind_eq_some_iff.1 h1
      obtain ⟨x, h4, h5, h6⟩ := ho n (by omega) _ _ h3
      exact ⟨(x, cs'), h2, h4, h5, h6⟩
    obtain ⟨qs, hql, hq⟩ := pick_all len each
    have cellAt : ∀ (i j : Nat) q v, qs[i]? = some q → q.2[j]? = some v → w.cell? ⟨a.block, a.off + (i * sz + j), none⟩ = some v ∧ a.spot = none := by
      intro i j q v hi hj
      obtain ⟨h1, h2, _, _⟩ := hq i q hi
      obtain ⟨_, _, h5⟩ := World.cells?_some h1
      have hjl : j < sz := by have := (List.getElem?_eq_some_iff.1 hj).1; omega
      have h6 := h5 j hjl
      rw [hj, Go.Deep.add_add] at h6
      have hsp : a.spot = none := by
        have h7 : ∃ u, w.cell? (a.add 0) = some u := by
          have hq0 : ∃ q0, qs[0]? = some q0 := by
            have := (List.getElem?_eq_some_iff.1 hi).1
            exact ⟨_, List.getElem?_eq_getElem (by omega)⟩
          obtain ⟨q0, hq0⟩ := hq0
          obtain ⟨k1, k2, _, _⟩ := hq 0 q0 hq0
          obtain ⟨_, _, k5⟩ := World.cells?_some k1
          have := k5 0 hsz
          rw [Go.Deep.add_add, Nat.zero_mul] at this
          exact ⟨_, this.trans (List.getElem?_eq_getElem (by omega))⟩
        obtain ⟨u, hu⟩ := h7
        rw [Addr.add_zero'] at hu
        unfold World.cell? at hu
        split at hu
        · split at hu
          · cases hu
          · rename_i hs; cases hs' : a.spot with
            | none => rfl
            | some s => rw [hs'] at hs; simp at hs
        · cases hu
      refine ⟨?_, hsp⟩
      have ea : a = ⟨a.block, a.off, none⟩ := by cases a; cases hsp; rfl
      rw [ea, Addr.add_lit] at h6
      exact h6
    refine ⟨qs.map (·.1), _, rfl, ?_, fun x hx => ?_, by rw [List.length_map]; omega⟩
    · have hlen2 : ((qs.map (·.1)).map cells).length = len := by simp [hql]
      rw [← hlen2]
      refine .sl (mk (qs.map (·.1))) ((qs.map (·.1)).map cells) (some a) cap a.block a.off (fun i j => ((qs.map (·.2)).getD i []).getD j undef) (hmk _) (by rw [hlen2]; exact hl) (fun hne => ?_) (fun i j l x hi hj => ?_) (fun i j l x hi hj => ?_)
      · have h0 : ∃ q0, qs[0]? = some q0 := by
          cases qs with
          | nil => exact absurd rfl hne
          | cons q _ => exact ⟨q, rfl⟩
        obtain ⟨q0, h0⟩ := h0
        obtain ⟨_, h2, _, _⟩ := hq 0 q0 h0
        have hs := (cellAt 0 0 q0 (q0.2[0]'(by omega)) h0 (List.getElem?_eq_getElem (by omega))).2
        cases a; cases hs; rfl
      · rw [List.map_map, List.getElem?_map] at hi
        obtain ⟨q, hqi, rfl⟩ := Option.map_eq_some_iff.1 hi
        obtain ⟨_, h2, _, _⟩ := hq i q hqi
        have hjl : j < q.2.length := by have := (List.getElem?_eq_some_iff.1 hj).1; rw [Function.comp, hcl] at this; omega
        have e1 : ((qs.map (·.2)).getD i []).getD j undef = q.2[j] := by
          rw [List.getD_eq_getElem?_getD, List.getD_eq_getElem?_getD, List.getElem?_map, hqi]
          simp [List.getElem?_eq_getElem hjl]
        rw [e1, hes]
        have hc := (cellAt i j q q.2[j] hqi (List.getElem?_eq_getElem hjl)).1
        exact ⟨hc, World.block_lt_of_cell? w ⟨a.block, _, none⟩ hc⟩
      · rw [List.map_map, List.getElem?_map] at hi
        obtain ⟨q, hqi, rfl⟩ := Option.map_eq_some_iff.1 hi
        obtain ⟨_, h2, h3, _⟩ := hq i q hqi
        have hjl : j < q.2.length := by have := (List.getElem?_eq_some_iff.1 hj).1; rw [Function.comp, hcl] at this; omega
        have e1 : ((qs.map (·.2)).getD i []).getD j undef = q.2[j] := by
          rw [List.getD_eq_getElem?_getD, List.getD_eq_getElem?_getD, List.getElem?_map, hqi]
          simp [List.getElem?_eq_getElem hjl]
        rw [e1]
        exact h3 j x _ hj (List.getElem?_eq_getElem hjl)
    · obtain ⟨q, hq', rfl⟩ := List.mem_map.1 hx
      obtain ⟨i, hi⟩ := List.getElem?_of_mem hq'
      exact (hq i q hi).2.2.2

/- one cell each: whole numbers -/
theorem opens_ints {k : IntKind} {T e fuel : Nat} (ht : P.underlying T = some (.slice e)) (he : P.underlying e = some (.int k)) (hce : P.cellsOf e = 1) {cs : List Value} {y : DataW H × List MemPlace}
    (h : DataW.trod enc P w base spare held fuel T cs = some y) : ∃ (l : List Int) (v : Value), cs = [v] ∧ RepC w (Old w) ⟨.sl (.one (.int k)), l⟩ v ∧ (∀ x ∈ l, (Lit.int k x).wf = true) ∧ l.length ≤ maxLen :=
  opens_sl (α := Int) (rowCells (.one (.int k))) (fun l => ⟨.sl (.one (.int k)), l⟩) (good := fun x => (Lit.int k x).wf = true) ht hce Nat.one_pos (fun _ => rfl) (fun _ => rfl) (fun _ => rfl) (fun n _ cs y h => by
    obtain ⟨x, rfl, _, hw⟩ := DataW.trod_int he h
    refine ⟨x, rfl, fun j c v hj hv => ?_, hw⟩
    match j with
    | 0 => cases hj; cases hv; exact .int _ _
    | j + 1 => cases hv) h

def okU (x : Int × Int) : Prop := (Lit.int .u32 x.1).wf = true ∧ (Lit.int .u32 x.2).wf = true

theorem opens_spans {T e fuel : Nat} {n0 n1 : Field} (ht : P.underlying T = some (.slice e)) (he : P.underlying e = some (.struct #[n0, n1])) (h0 : n0.offset = 0) (h1 : n1.offset = 1) (k0 : P.underlying n0.type = some (.int .u32)) (k1 : P.underlying n1.type = some (.int .u32))
    (hce : P.cellsOf e = 2) (c0 : P.cellsOf n0.type = 1) (c1 : P.cellsOf n1.type = 1) {cs : List Value} {y : DataW H × List MemPlace} (h : DataW.trod enc P w base spare held fuel T cs = some y) :
    ∃ (l : List (Int × Int)) (v : Value), cs = [v] ∧ RepC w (Old w) ⟨.sl spanRow, l⟩ v ∧ (∀ x ∈ l, okU x) ∧ l.length ≤ maxLen :=
  opens_sl (α := Int × Int) (rowCells spanRow) (fun l => ⟨.sl spanRow, l⟩) (good := okU) ht hce (by decide) (fun _ => rfl) (fun _ => rfl) (fun _ => rfl) (fun n _ cs y h => by
    obtain ⟨xs, n, _, _, hl, hxl, hx⟩ := DataW.trod_struct he h
    rw [hce] at hl
    match cs, hl with
    | [a, b], _ =>
      have hxl : xs.length = 2 := hxl
      have f0 := hx 0 n0 rfl
      have f1 := hx 1 n1 rfl
      rw [h0, c0, List.getElem?_eq_getElem (by omega)] at f0
      rw [h1, c1, List.getElem?_eq_getElem (by omega)] at f1
      obtain ⟨x, e0, _, w0⟩ := DataW.trod_int k0 f0
      obtain ⟨z, e1, _, w1⟩ := DataW.trod_int k1 f1
      have e0 : [a] = [.int .u32 x] := e0
      have e1 : [b] = [.int .u32 z] := e1
      cases e0
      cases e1
      refine ⟨(x, z), rfl, fun j c v hj hv => ?_, w0, w1⟩
      match j with
      | 0 => cases hj; cases hv; exact .int _ _
      | 1 => cases hj; cases hv; exact .int _ _
      | j + 2 => cases hv) h

/- a pattern as a row hands it over -/
inductive Pat.Wf : Pat → Prop
  | mk (k : Int) (s : List (Int × Int)) (l : List Pat) (hk : (Lit.int .i64 k).wf = true) (hs : ∀ x ∈ s, okU x) (hsl : s.length ≤ maxLen) (hl : ∀ p ∈ l, Pat.Wf p) (hll : l.length ≤ maxLen) : Pat.Wf (.mk k s l)

theorem opens_pat {TP E : Nat} {n0 n1 n2 m0 m1 : Field} (ht : P.underlying TP = some (.struct #[n0, n1, n2])) (hc : P.cellsOf TP = 3) (o0 : n0.offset = 0) (o1 : n1.offset = 1) (o2 : n2.offset = 2)
    (c0 : P.cellsOf n0.type = 1) (c1 : P.cellsOf n1.type = 1) (c2 : P.cellsOf n2.type = 1) (k0 : P.underlying n0.type = some (.int .i64)) (k1 : P.underlying n1.type = some (.slice E)) (k2 : P.underlying n2.type = some (.slice TP))
    (he : P.underlying E = some (.struct #[m0, m1])) (p0 : m0.offset = 0) (p1 : m1.offset = 1) (q0 : P.underlying m0.type = some (.int .u32)) (q1 : P.underlying m1.type = some (.int .u32)) (hce : P.cellsOf E = 2) (d0 : P.cellsOf m0.type = 1) (d1 : P.cellsOf m1.type = 1) :
    ∀ (fuel : Nat) (cs : List Value) (y : DataW H × List MemPlace), DataW.trod enc P w base spare held fuel TP cs = some y → ∃ p : Pat, cs.length = 3 ∧ (∀ (j : Nat) c v, (Pat.cells p)[j]? = some c → cs[j]? = some v → RepC w (Old w) c v) ∧ p.Wf := by
  intro fuel
  induction fuel using Nat.strongRecOn with
  | _ fuel ih =>
    intro cs y h
    obtain ⟨xs, n, rfl, _, hl, hxl, hx⟩ := DataW.trod_struct ht h
    rw [hc] at hl
    match cs, hl with
    | [a, b, c], _ =>
      have hxl : xs.length = 3 := hxl
      have f0 := hx 0 n0 rfl
      have f1 := hx 1 n1 rfl
      have f2 := hx 2 n2 rfl
      rw [o0, c0, List.getElem?_eq_getElem (by omega)] at f0
      rw [o1, c1, List.getElem?_eq_getElem (by omega)] at f1
      rw [o2, c2, List.getElem?_eq_getElem (by omega)] at f2
      obtain ⟨k, e0, _, w0⟩ := DataW.trod_int k0 f0
      obtain ⟨s, v1, e1, r1, g1, l1⟩ := opens_spans k1 he p0 p1 q0 q1 hce d0 d1 f1
      obtain ⟨l, v2, e2, r2, g2, l2⟩ := opens_sl (α := Pat) Pat.cells (fun l => ⟨.pats, l⟩) (good := Pat.Wf) k2 hc (by decide) (fun _ => rfl) (fun _ => rfl) (fun _ => rfl) (fun m hm cs y h => ih m (by omega) cs y h) f2
      have e0 : [a] = [.int .i64 k] := e0
      have e1 : [b] = [v1] := e1
      have e2 : [c] = [v2] := e2
      cases e0
      cases e1
      cases e2
      refine ⟨.mk k s l, rfl, fun j c v hj hv => ?_, .mk k s l w0 g1 l1 g2 l2⟩
      match j with
      | 0 => cases hj; cases hv; exact .int _ _
      | 1 => cases hj; cases hv; exact r1
      | 2 => cases hj; cases hv; exact r2
      | j + 3 => cases hv

end

end Go.Proofs.Ytoifbdaaiejbnaa.D
/- A pattern's positions take what the pattern takes. -/
namespace Go.Proofs.Ytoifbdaaiejbnaa.D
open Go

theorem Glu.congr {A B : List Int → Prop} {a : Nat} {x : Told} {S : Sets} {F : List (List Int)} (h : Glu A a x S F) (e : ∀ w, A w ↔ B w) : Glu B a x S F :=
  ⟨h.le, h.good, h.first, h.last, h.inner, fun w => (h.lang w).trans (e w)⟩

theorem glu_alt {A B : List Int → Prop} {a : Nat} {x y : Told} {S S' : Sets} {F F' : List (List Int)} (h1 : Glu A a x S F) (h2 : Glu B S.length y S' F') (hg : Grow S F S' F') :
    Glu (fun w => A w ∨ B w) a (altT x y) S' F' := by
  have hle := hg.le
  have ha := h1.le
  have mf : ∀ k, k ∈ (altT x y).2.1 ↔ k ∈ x.2.1 ∨ k ∈ y.2.1 := fun k => withL_mem y.2.1 x.2.1 k
  have ml : ∀ k, k ∈ (altT x y).2.2 ↔ k ∈ x.2.2 ∨ k ∈ y.2.2 := fun k => withL_mem y.2.2 x.2.2 k
  have first : ∀ w k, ((a : Int) ≤ k ∧ k < S.length) → (Tail S' F' (altT x y).2.2 w k ↔ Tail S F x.2.2 w k) :=
    tail_same (fun k => (a : Int) ≤ k ∧ k < S.length) (fun k hk m hm => h1.inner k hk.1 hk.2 m hm) (fun k hk => hg.fol k (by omega) hk.2) (fun k hk => hg.sets k (by omega) hk.2)
      (fun k hk => (ml k).trans ⟨fun h => h.elim id (fun h => by have := h2.last k h; omega), Or.inl⟩)
  have second : ∀ w k, ((S.length : Int) ≤ k ∧ k < S'.length) → (Tail S' F' (altT x y).2.2 w k ↔ Tail S' F' y.2.2 w k) :=
    tail_same (fun k => (S.length : Int) ≤ k ∧ k < S'.length) (fun k hk m hm => h2.inner k hk.1 hk.2 m hm) (fun k hk => rfl) (fun k hk => rfl)
      (fun k hk => (ml k).trans ⟨fun h => h.elim (fun h => by have := h1.last k h; omega) id, Or.inr⟩)
  refine ⟨by omega, h2.good, fun k hk => ?_, fun k hk => ?_, fun k hk hk2 m hm => ?_, fun w => ?_⟩
  · rcases (mf k).mp hk with h | h
    · have := h1.first k h; omega
    · have := h2.first k h; omega
  · rcases (ml k).mp hk with h | h
    · have := h1.last k h; omega
    · have := h2.last k h; omega
  · by_cases hlt : k < S.length
    · rw [hg.fol k (by omega) hlt] at hm
      have := h1.inner k hk hlt m hm; omega
    · have := h2.inner k (by omega) hk2 m hm; omega
  · cases w with
    | nil =>
      rw [← h1.lang [], ← h2.lang []]
      show (x.1 || y.1) = true ↔ _
      rw [Bool.or_eq_true]
      exact Iff.rfl
    | cons n w =>
      rw [← h1.lang (n :: w), ← h2.lang (n :: w)]
      constructor
      · rintro ⟨k, h3, h4, h5⟩
        rcases (mf k).mp h3 with h | h
        · have hk := h1.first k h
          exact Or.inl ⟨k, h, by rw [← hg.sets k (by omega) hk.2]; exact h4, (first w k hk).mp h5⟩
        · exact Or.inr ⟨k, h, h4, (second w k (h2.first k h)).mp h5⟩
      · rintro (⟨k, h, h4, h5⟩ | ⟨k, h, h4, h5⟩)
        · have hk := h1.first k h
          exact ⟨k, (mf k).mpr (Or.inl h), by rw [hg.sets k (by omega) hk.2]; exact h4, (first w k hk).mpr h5⟩
        · exact ⟨k, (mf k).mpr (Or.inr h), h4, (second w k (h2.first k h)).mpr h5⟩

theorem starL_cons {A : List Int → Prop} {n : Int} {w : List Int} (h : StarL A (n :: w)) : ∃ u v, w = u ++ v ∧ A (n :: u) ∧ StarL A v := by
  generalize hz : n :: w = z at h
  induction h with
  | nil => cases hz
  | cons u v h t ih =>
    cases u with
    | nil => exact ih hz
    | cons m u =>
      have hz : n :: w = m :: (u ++ v) := hz
      obtain ⟨rfl, rfl⟩ := List.cons.inj hz
      exact ⟨u, v, rfl, h, t⟩

theorem glu_star {A : List Int → Prop} {a : Nat} {x : Told} {S : Sets} {F : List (List Int)} (h : Glu A a x S F) (hx : GoodL S.length x.2.1) : Glu (StarL A) a (true, x.2) S (chainP F x.2.2 x.2.1) := by
  have fl : F.length = S.length := h.good.1
  have Fm := chainP_mem x.2.1 x.2.2 F (fun k hk => by have := h.last k hk; omega)
  have key : ∀ w k, ((a : Int) ≤ k ∧ k < S.length) → Tail S (chainP F x.2.2 x.2.1) x.2.2 w k → ∃ u v, w = u ++ v ∧ Tail S F x.2.2 u k ∧ StarL A v := by
    intro w
    induction w with
    | nil => intro k hk h1; exact ⟨[], [], rfl, h1, .nil⟩
    | cons n w ih =>
      rintro k hk ⟨m, h3, h4, h5⟩
      rcases (Fm k (by omega) (by omega) m).mp h3 with h3 | ⟨h3, h6⟩
      · obtain ⟨u, v, e1, e2, e3⟩ := ih m (h.inner k hk.1 hk.2 m h3) h5
        exact ⟨n :: u, v, by rw [e1]; rfl, ⟨m, h3, h4, e2⟩, e3⟩
      · obtain ⟨u, v, e1, e2, e3⟩ := ih m (h.first m h6) h5
        exact ⟨[], n :: w, rfl, h3, by rw [e1]; exact .cons (n :: u) v ((h.lang (n :: u)).mp ⟨m, h6, h4, e2⟩) e3⟩
  have back : ∀ N (u v : List Int) k, (u ++ v).length ≤ N → ((a : Int) ≤ k ∧ k < S.length) → Tail S F x.2.2 u k → StarL A v → Tail S (chainP F x.2.2 x.2.1) x.2.2 (u ++ v) k := by
    intro N
    induction N with
    | zero =>
      intro u v k hl hk h1 h2
      obtain ⟨rfl, rfl⟩ := List.append_eq_nil_iff.mp (List.eq_nil_of_length_eq_zero (Nat.le_zero.mp hl))
      exact h1
    | succ N ih =>
      intro u v k hl hk h1 h2
      cases u with
      | nil =>
        cases v with
        | nil => exact h1
        | cons n w =>
          obtain ⟨u', v', rfl, e2, e3⟩ := starL_cons h2
          obtain ⟨m, h6, h4, h5⟩ := (h.lang (n :: u')).mpr e2
          refine ⟨m, (Fm k (by omega) (by omega) m).mpr (Or.inr ⟨h1, h6⟩), h4, ih u' v' m (by simpa using hl) (h.first m h6) h5 e3⟩
      | cons n u =>
        obtain ⟨m, h3, h4, h5⟩ := h1
        exact ⟨m, (Fm k (by omega) (by omega) m).mpr (Or.inl h3), h4, ih u v m (by simpa using hl) (h.inner k hk.1 hk.2 m h3) h5 h2⟩
  refine ⟨h.le, chainP_good hx _ _ h.good, h.first, h.last, fun k hk hk2 m hm => ?_, fun w => ?_⟩
  · have ha := h.le
    rcases (Fm k (by omega) (by omega) m).mp hm with h' | h'
    · exact h.inner k hk hk2 m h'
    · exact h.first m h'.2
  · cases w with
    | nil => exact ⟨fun _ => .nil, fun _ => rfl⟩
    | cons n w =>
      constructor
      · rintro ⟨k, h3, h4, h5⟩
        obtain ⟨u, v, e1, e2, e3⟩ := key w k (h.first k h3) h5
        rw [e1]
        exact .cons (n :: u) v ((h.lang (n :: u)).mp ⟨k, h3, h4, e2⟩) e3
      · intro hs
        obtain ⟨u, v, rfl, e2, e3⟩ := starL_cons hs
        obtain ⟨m, h6, h4, h5⟩ := (h.lang (n :: u)).mpr e2
        exact ⟨m, h6, h4, back _ u v m (Nat.le_refl _) (h.first m h6) h5 e3⟩

/- what a list of parts leaves as it was: all sets, and what follows the positions ahead of a -/
structure Grow2 (a : Nat) (S : Sets) (F : List (List Int)) (S' : Sets) (F' : List (List Int)) : Prop where
  le : S.length ≤ S'.length
  sets : ∀ k : Int, 0 ≤ k → k < S.length → S'.getD k.toNat [] = S.getD k.toNat []
  fol : ∀ k : Int, 0 ≤ k → k < a → F'.getD k.toNat [] = F.getD k.toNat []

def GluP (p : Pat) : Prop := ∀ S F, GoodF S.length F → Glu (Lang p) S.length (partP p S F).1 (partP p S F).2.1 (partP p S F).2.2 ∧ Grow S F (partP p S F).2.1 (partP p S F).2.2

theorem glu_catP : ∀ (l : List Pat) (hl : ∀ p ∈ l, GluP p) (A : List Int → Prop) (a : Nat) (o : Told) (S : Sets) (F : List (List Int)), Glu A a o S F →
    Glu (fun w => ∃ u v, w = u ++ v ∧ A u ∧ LangC l v) a (catP l o S F).1 (catP l o S F).2.1 (catP l o S F).2.2 ∧ Grow2 a S F (catP l o S F).2.1 (catP l o S F).2.2
  | [], _, A, a, o, S, F, h => by
    refine ⟨?_, by rw [catP]; exact ⟨Nat.le_refl _, fun _ _ _ => rfl, fun _ _ _ => rfl⟩⟩
    rw [catP]
    refine h.congr fun w => ⟨fun hw => ⟨w, [], by simp, hw, by rw [LangC]⟩, ?_⟩
    rintro ⟨u, v, rfl, e2, e3⟩
    rw [LangC] at e3
    subst e3
    rwa [List.append_nil]
  | p :: l, hl, A, a, o, S, F, h => by
    obtain ⟨g1, g2⟩ := hl p List.mem_cons_self S F h.good
    have hy := (partP_good p S F h.good).first
    have c := glu_cat h g1 g2 hy
    obtain ⟨r1, r2⟩ := glu_catP l (fun q hq => hl q (List.mem_cons_of_mem _ hq)) _ a _ _ _ c
    rw [catP]
    refine ⟨r1.congr fun w => ?_, ⟨Nat.le_trans g2.le r2.le, fun k h0 hk => (r2.sets k h0 (by have := g2.le; omega)).trans (g2.sets k h0 hk), fun k h0 hk => (r2.fol k h0 hk).trans ?_⟩⟩
    · constructor
      · rintro ⟨u, v, rfl, ⟨u1, v1, rfl, e1, e2⟩, e3⟩
        exact ⟨u1, v1 ++ v, by rw [List.append_assoc], e1, by rw [LangC]; exact ⟨v1, v, rfl, e2, e3⟩⟩
      · rintro ⟨u, v, rfl, e1, e2⟩
        rw [LangC] at e2
        obtain ⟨v1, v2, rfl, e3, e4⟩ := e2
        exact ⟨u ++ v1, v2, by rw [List.append_assoc], ⟨u, v1, rfl, e1, e3⟩, e4⟩
    · rw [chainP_out _ _ _ (fun x hx => by have := h.last x hx; omega) k h0 (fun hx => by have := h.last k hx; omega)]
      exact g2.fol k h0 (by have := h.le; omega)

theorem glu_altP : ∀ (l : List Pat) (hl : ∀ p ∈ l, GluP p) (A : List Int → Prop) (a : Nat) (o : Told) (S : Sets) (F : List (List Int)), Glu A a o S F →
    Glu (fun w => A w ∨ LangA l w) a (altP l o S F).1 (altP l o S F).2.1 (altP l o S F).2.2 ∧ Grow2 a S F (altP l o S F).2.1 (altP l o S F).2.2
  | [], _, A, a, o, S, F, h => by
    refine ⟨?_, by rw [altP]; exact ⟨Nat.le_refl _, fun _ _ _ => rfl, fun _ _ _ => rfl⟩⟩
    rw [altP]
    refine h.congr fun w => ⟨Or.inl, fun hw => hw.elim id (fun hw => ?_)⟩
    rw [LangA] at hw
    exact hw.elim
  | p :: l, hl, A, a, o, S, F, h => by
    obtain ⟨g1, g2⟩ := hl p List.mem_cons_self S F h.good
    have c := glu_alt h g1 g2
    obtain ⟨r1, r2⟩ := glu_altP l (fun q hq => hl q (List.mem_cons_of_mem _ hq)) _ a _ _ _ c
    rw [altP]
    refine ⟨r1.congr fun w => ?_, ⟨Nat.le_trans g2.le r2.le, fun k h0 hk => (r2.sets k h0 (by have := g2.le; omega)).trans (g2.sets k h0 hk), fun k h0 hk => (r2.fol k h0 hk).trans (g2.fol k h0 (by have := h.le; omega))⟩⟩
    rw [LangA, or_assoc]

/- one number -/
theorem glu_one (s : List (Int × Int)) (hs : ∀ n, inSet (normP s) n ↔ inSet s n) (S : Sets) (F : List (List Int)) (hF : GoodF S.length F) :
    Glu (fun w => ∃ n, w = [n] ∧ inSet s n) S.length (false, [(S.length : Int)], [(S.length : Int)]) (S ++ [normP s]) (F ++ [[]]) ∧ Grow S F (S ++ [normP s]) (F ++ [[]]) := by
  have e : (S ++ [normP s]).length = S.length + 1 := by rw [List.length_append]; rfl
  have sg : (S ++ [normP s]).getD ((S.length : Int)).toNat [] = normP s := by
    rw [Int.toNat_natCast, List.getD_eq_getElem?_getD, List.getElem?_append_right (Nat.le_refl _), Nat.sub_self]; rfl
  have fg : (F ++ [[]]).getD ((S.length : Int)).toNat [] = ([] : List Int) := by
    rw [Int.toNat_natCast, List.getD_eq_getElem?_getD, List.getElem?_append_right (by rw [hF.1]; exact Nat.le_refl _), hF.1, Nat.sub_self]; rfl
  refine ⟨⟨by omega, by rw [e]; exact snoc_good hF, fun k hk => ?_, fun k hk => ?_, fun k hk hk2 m hm => ?_, fun w => ?_⟩, ⟨by omega, fun k h0 hk => ?_, fun k h0 hk => ?_⟩⟩
  · rw [List.mem_singleton.mp hk, e]; omega
  · rw [List.mem_singleton.mp hk, e]; omega
  · rw [e] at hk2
    have ek : k = (S.length : Int) := by omega
    subst ek
    rw [fg] at hm
    cases hm
  · cases w with
    | nil => exact ⟨(fun h => by cases h), (fun ⟨n, h, _⟩ => by cases h)⟩
    | cons n w =>
      constructor
      · rintro ⟨k, h3, h4, h5⟩
        have ek := List.mem_singleton.mp h3
        subst ek
        rw [sg] at h4
        cases w with
        | nil => exact ⟨n, rfl, (hs n).mp h4⟩
        | cons n' w =>
          obtain ⟨m, h6, _⟩ := h5
          rw [fg] at h6
          cases h6
      · rintro ⟨n', h1, h2⟩
        cases h1
        exact ⟨(S.length : Int), List.mem_singleton.mpr rfl, by rw [sg]; exact (hs n).mpr h2, List.mem_singleton.mpr rfl⟩
  · rw [List.getD_eq_getElem?_getD, List.getElem?_append_left (by omega), ← List.getD_eq_getElem?_getD]
  · rw [List.getD_eq_getElem?_getD, List.getElem?_append_left (by rw [hF.1]; omega), ← List.getD_eq_getElem?_getD]

theorem glu_none (S : Sets) (F : List (List Int)) (hF : GoodF S.length F) (e : Bool) : Glu (fun w => e = true ∧ w = []) S.length (e, [], []) S F :=
  ⟨Nat.le_refl _, hF, (fun k hk => by cases hk), (fun k hk => by cases hk), (fun k hk hk2 => by omega), fun w => by
    match w with
    | [] => exact ⟨fun h => ⟨h, rfl⟩, fun h => h.1⟩
    | n :: w => exact ⟨(fun ⟨k, h, _⟩ => by cases h), (fun h => by cases h.2)⟩⟩

theorem glu_part (hnorm : ∀ s : List (Int × Int), (∀ x ∈ s, okU x) → s.length ≤ 256 → ∀ n, inSet (normP s) n ↔ inSet s n) (p : Pat) : p.fits = true → p.Wf → GluP p := by
  refine Pat.induct (motive := fun p => p.fits = true → p.Wf → GluP p) (fun p ih hf hw => ?_) p
  have hsub := fits_sub hf
  have hwsub : ∀ q ∈ p.subs, q.Wf := by cases hw with | mk k s l hk hs hsl hl hll => exact hl
  have hset : ∀ x ∈ p.set, okU x := by cases hw with | mk k s l hk hs hsl hl hll => exact hs
  have subs : ∀ q ∈ p.subs, GluP q := fun q hq => ih q hq (hsub q hq) (hwsub q hq)
  intro S F hF
  rw [partP_eq]
  by_cases k1 : p.kind = 1
  · have hlen : p.set.length ≤ 256 := by
      rw [p.fits_eq, if_pos k1] at hf
      have := (Bool.and_eq_true _ _).mp hf
      simpa using this.2
    rw [if_pos k1]
    obtain ⟨g1, g2⟩ := glu_one p.set (hnorm p.set hset hlen) S F hF
    refine ⟨g1.congr fun w => ?_, g2⟩
    rw [Lang_eq]
    constructor
    · intro h; exact Or.inl ⟨k1, h⟩
    · rintro (h | h | h | h)
      · exact h.2
      · omega
      · omega
      · omega
  · rw [if_neg k1]
    by_cases k2 : p.kind = 2
    · rw [if_pos k2]
      obtain ⟨g1, g2⟩ := glu_catP p.subs subs _ S.length (true, [], []) S F (glu_none S F hF true)
      refine ⟨g1.congr fun w => ?_, ⟨g2.le, g2.sets, g2.fol⟩⟩
      rw [Lang_eq]
      constructor
      · rintro ⟨u, v, rfl, ⟨_, rfl⟩, h⟩; exact Or.inr (Or.inl ⟨k2, h⟩)
      · rintro (h | h | h | h)
        · omega
        · exact ⟨[], w, rfl, ⟨rfl, rfl⟩, h.2⟩
        · omega
        · omega
    · rw [if_neg k2]
      by_cases k3 : p.kind = 3
      · rw [if_pos k3]
        obtain ⟨g1, g2⟩ := glu_altP p.subs subs _ S.length (false, [], []) S F (glu_none S F hF false)
        refine ⟨g1.congr fun w => ?_, ⟨g2.le, g2.sets, g2.fol⟩⟩
        rw [Lang_eq]
        constructor
        · rintro (⟨h, _⟩ | h)
          · cases h
          · exact Or.inr (Or.inr (Or.inl ⟨k3, h⟩))
        · rintro (h | h | h | h)
          · omega
          · omega
          · exact Or.inr h.2
          · omega
      · rw [if_neg k3]
        have k4 : p.kind = 4 := by
          rw [p.fits_eq, if_neg k1] at hf
          split at hf
          · omega
          · cases hf
        cases hs : p.subs with
        | nil =>
          rw [starP]
          refine ⟨(glu_none S F hF true).congr fun w => ?_, Grow.refl S F⟩
          rw [Lang_eq, hs, LangS]
          constructor
          · rintro ⟨_, rfl⟩; exact Or.inr (Or.inr (Or.inr ⟨k4, rfl⟩))
          · rintro (h | h | h | h)
            · omega
            · omega
            · omega
            · exact ⟨rfl, h.2⟩
        | cons q l =>
          have hq : q ∈ p.subs := by rw [hs]; exact List.mem_cons_self
          obtain ⟨g1, g2⟩ := subs q hq S F hF
          have hgood := partP_good q S F hF
          rw [starP]
          refine ⟨(glu_star g1 hgood.first).congr fun w => ?_, ⟨g2.le, g2.sets, fun k h0 hk => ?_⟩⟩
          · rw [Lang_eq, hs, LangS]
            constructor
            · intro h; exact Or.inr (Or.inr (Or.inr ⟨k4, h⟩))
            · rintro (h | h | h | h)
              · omega
              · omega
              · omega
              · exact h.2
          · show (chainP (partP q S F).2.2 (partP q S F).1.2.2 (partP q S F).1.2.1).getD k.toNat [] = _
            rw [chainP_out _ _ _ (fun x hx => by have := g1.last x hx; omega) k h0 (fun hx => by have := g1.last k hx; omega)]
            exact g2.fol k h0 hk

end Go.Proofs.Ytoifbdaaiejbnaa.D
/- What is in a set: span.In, the document's In; span.Norm keeps it. -/
namespace Go.Proofs.Ytoifbdaaiejbnaa.D
open Go

def inS (s : List (Int × Int)) (n : Int) : Bool := s.any fun x => decide (x.1 ≤ n) && decide (n ≤ x.2)
theorem inS_iff (s : List (Int × Int)) (n : Int) : inS s n = true ↔ inSet s n := by
  unfold inS inSet
  rw [List.any_eq_true]
  constructor
  · rintro ⟨x, h, e⟩
    rw [Bool.and_eq_true, decide_eq_true_eq, decide_eq_true_eq] at e
    exact ⟨x, h, e⟩
  · rintro ⟨x, h, e⟩
    exact ⟨x, h, by rw [Bool.and_eq_true, decide_eq_true_eq, decide_eq_true_eq]; exact e⟩

theorem inSet_cons (x : Int × Int) (l : List (Int × Int)) (n : Int) : inSet (x :: l) n ↔ (x.1 ≤ n ∧ n ≤ x.2) ∨ inSet l n := by
  unfold inSet
  constructor
  · rintro ⟨y, h, e⟩
    rcases List.mem_cons.mp h with rfl | h
    · exact Or.inl e
    · exact Or.inr ⟨y, h, e⟩
  · rintro (e | ⟨y, h, e⟩)
    · exact ⟨x, List.mem_cons_self, e⟩
    · exact ⟨y, List.mem_cons_of_mem _ h, e⟩

theorem inSet_nil (n : Int) : ¬ inSet [] n := fun ⟨x, h, _⟩ => by cases h

theorem u32_of {n : Int} (h : (Lit.int .u32 n).wf = true) : 0 ≤ n ∧ n ≤ 4294967295 := by
  have h2 : (decide (IntKind.u32.min ≤ n) && decide (n ≤ IntKind.u32.max)) = true := h
  rw [Bool.and_eq_true, decide_eq_true_eq, decide_eq_true_eq] at h2
  exact h2

theorem merge_in (n : Int) : ∀ (r acc : List (Int × Int)), r.Pairwise (fun a b => a.1 ≤ b.1) → (∀ x ∈ r, x.1 ≤ x.2 ∧ okU x) → (∀ q o, acc = q :: o → (0 ≤ q.2 ∧ q.2 ≤ 4294967295) ∧ ∀ x ∈ r, q.1 ≤ x.1) →
    (inSet (r.foldl mergeP acc) n ↔ inSet acc n ∨ inSet r n)
  | [], acc, _, _, _ => ⟨Or.inl, fun h => h.elim id (fun h => absurd h (inSet_nil n))⟩
  | s :: r, acc, hp, hr, ha => by
    have hp' := List.pairwise_cons.mp hp
    have hs := hr s List.mem_cons_self
    have u1 := u32_of hs.2.1
    have u2 := u32_of hs.2.2
    have hr' : ∀ x ∈ r, x.1 ≤ x.2 ∧ okU x := fun x hx => hr x (List.mem_cons_of_mem _ hx)
    rw [List.foldl_cons]
    cases acc with
    | nil =>
      refine (merge_in n r [s] hp'.2 hr' (fun q o e => ?_)).trans ?_
      · obtain ⟨rfl, rfl⟩ := List.cons.inj e
        exact ⟨by omega, hp'.1⟩
      · rw [inSet_cons, inSet_cons]
        constructor
        · rintro ((h | h) | h)
          · exact Or.inr (Or.inl h)
          · exact absurd h (inSet_nil n)
          · exact Or.inr (Or.inr h)
        · rintro (h | h | h)
          · exact absurd h (inSet_nil n)
          · exact Or.inl (Or.inl h)
          · exact Or.inr h
    | cons q o =>
      obtain ⟨hq, hqs⟩ := ha q o rfl
      have hqs1 := hqs s List.mem_cons_self
      by_cases hc : q.2 = 4294967295 ∨ s.1 ≤ IntKind.wrap .u32 (q.2 + 1)
      · rw [← mergeP_in hc]
        have hm : maxI q.2 s.2 = if s.2 > q.2 then s.2 else q.2 := rfl
        have hw : q.2 = 4294967295 ∨ s.1 ≤ q.2 + 1 := by
          rcases hc with h | h
          · exact Or.inl h
          · by_cases e : q.2 = 4294967295
            · exact Or.inl e
            · refine Or.inr ?_
              rw [IntKind.wrap_u32] at h
              omega
        refine (merge_in n r _ hp'.2 hr' (fun q' o' e => ?_)).trans ?_
        · obtain ⟨rfl, rfl⟩ := List.cons.inj e
          refine ⟨?_, fun x hx => hqs x (List.mem_cons_of_mem _ hx)⟩
          show 0 ≤ maxI q.2 s.2 ∧ maxI q.2 s.2 ≤ 4294967295
          rw [hm]; split <;> omega
        · rw [inSet_cons, inSet_cons, inSet_cons]
          show ((q.1 ≤ n ∧ n ≤ maxI q.2 s.2) ∨ inSet o n) ∨ inSet r n ↔ _
          rw [hm]
          constructor
          · rintro ((⟨h1, h2⟩ | h) | h)
            · by_cases h3 : n ≤ q.2
              · exact Or.inl (Or.inl ⟨h1, h3⟩)
              · refine Or.inr (Or.inl ?_)
                split at h2 <;> omega
            · exact Or.inl (Or.inr h)
            · exact Or.inr (Or.inr h)
          · rintro ((⟨h1, h2⟩ | h) | ⟨h1, h2⟩ | h)
            · exact Or.inl (Or.inl ⟨h1, by split <;> omega⟩)
            · exact Or.inl (Or.inr h)
            · exact Or.inl (Or.inl ⟨by omega, by split <;> omega⟩)
            · exact Or.inr h
      · rw [← mergeP_out hc]
        refine (merge_in n r _ hp'.2 hr' (fun q' o' e => ?_)).trans ?_
        · obtain ⟨rfl, rfl⟩ := List.cons.inj e
          exact ⟨by omega, hp'.1⟩
        · rw [inSet_cons, inSet_cons, inSet_cons]
          constructor
          · rintro ((h | h | h) | h)
            · exact Or.inr (Or.inl h)
            · exact Or.inl (Or.inl h)
            · exact Or.inl (Or.inr h)
            · exact Or.inr (Or.inr h)
          · rintro ((h | h) | h | h)
            · exact Or.inl (Or.inr (Or.inl h))
            · exact Or.inl (Or.inr (Or.inr h))
            · exact Or.inl (Or.inl h)
            · exact Or.inr h

theorem inSet_ext {s t : List (Int × Int)} (h : ∀ x, x ∈ s ↔ x ∈ t) (n : Int) : inSet s n ↔ inSet t n := by
  unfold inSet
  exact ⟨fun ⟨x, a, b⟩ => ⟨x, (h x).mp a, b⟩, fun ⟨x, a, b⟩ => ⟨x, (h x).mpr a, b⟩⟩

theorem normP_in (s : List (Int × Int)) (hs : ∀ x ∈ s, okU x) (hl : s.length ≤ 256) (n : Int) : inSet (normP s) n ↔ inSet s n := by
  have hfl := List.length_filter_le (fun s : Int × Int => decide (s.1 ≤ s.2)) s
  obtain ⟨r, hr⟩ := sortSpan_some (s.filter fun s => decide (s.1 ≤ s.2)) (by omega)
  obtain ⟨hp, hw⟩ := sortSpan_sorts hr
  unfold normP sortP
  rw [hr]
  show inSet (r.foldl mergeP []).reverse n ↔ _
  rw [inSet_ext (fun x => List.mem_reverse), merge_in n r [] hw (fun x hx => ?_) (fun q o e => by cases e)]
  · constructor
    · rintro (h | ⟨x, h, e⟩)
      · exact absurd h (inSet_nil n)
      · exact ⟨x, (List.mem_filter.mp (hp.mem_iff.mp h)).1, e⟩
    · rintro ⟨x, h, e⟩
      exact Or.inr ⟨x, hp.mem_iff.mpr (List.mem_filter.mpr ⟨h, decide_eq_true (by omega)⟩), e⟩
  · have := List.mem_filter.mp (hp.mem_iff.mp hx)
    exact ⟨of_decide_eq_true this.2, hs x this.1⟩

/- the functions -/
theorem ref01_In.loop (C : B0.Call) (n : Int) (l : List (Int × Int)) (hl : l.length < 9223372036854775807) : ∀ (r : List (Int × Int)) (i j : Nat), l.drop i = r → r.length < j → ref01_In.l2 (ref01_In.R C j) n l l.length i = some (inS r n) := by
  intro r
  induction r with
  | nil =>
    intro i j hr hj
    obtain ⟨m, rfl, hm⟩ := succ_of hj
    rw [ref01_In.s2, ref01_In.t2, dec_ge (drop_nil' hr), cond_false]
    rfl
  | cons x r ih =>
    intro i j hr hj
    obtain ⟨m, rfl, hm⟩ := succ_of hj
    obtain ⟨h1, h2, h3⟩ := drop_cons' hr
    rw [List.length_cons] at hj
    rw [ref01_In.s2, ref01_In.t2, dec_lt h1, cond_true, idx_nat, h2, Option.bind_some, wrapS i (by omega), ih (i + 1) m h3 (by omega)]
    show _ = some ((decide (x.1 ≤ n) && decide (n ≤ x.2)) || inS r n)
    cases decide (x.1 ≤ n) <;> cases decide (n ≤ x.2) <;> rfl
theorem ref01_In.spec (s : List (Int × Int)) (n : Int) (k : Nat) (hl : s.length < 9223372036854775807) (hk : s.length < k) : ref01_In.C (B0.call (k + 1)) s n = some (inS s n) := by
  rw [ref01_In.s, ref01_In.t]
  exact ref01_In.loop (B0.call k) n s hl s 0 k List.drop_zero hk

theorem span_In.loop (C : B0.Call) (hC : ∀ a b n, span_In_c1.C C a b n = some (decide (n ≥ a) && decide (n ≤ b), n)) (n : Int) (l : List (Int × Int)) (hl : l.length < 9223372036854775807) :
    ∀ (r : List (Int × Int)) (i j : Nat), l.drop i = r → r.length < j → ∃ m : Int, slices_IndexFunc_api_Span_api_Span.l2 (slices_IndexFunc_api_Span_api_Span.R C j) l l.length i n = some (m, n) ∧ decide (m ≥ 0) = inS r n := by
  intro r
  induction r with
  | nil =>
    intro i j hr hj
    obtain ⟨m, rfl, hm⟩ := succ_of hj
    rw [slices_IndexFunc_api_Span_api_Span.s2, slices_IndexFunc_api_Span_api_Span.t2, dec_ge (drop_nil' hr), cond_false]
    exact ⟨_, rfl, rfl⟩
  | cons x r ih =>
    intro i j hr hj
    obtain ⟨m, rfl, hm⟩ := succ_of hj
    obtain ⟨h1, h2, h3⟩ := drop_cons' hr
    rw [List.length_cons] at hj
    rw [slices_IndexFunc_api_Span_api_Span.s2, slices_IndexFunc_api_Span_api_Span.t2, dec_lt h1, cond_true, idx_nat, h2, Option.bind_some, hC, Option.bind_some, wrapS i (by omega)]
    have e : inS (x :: r) n = ((decide (n ≥ x.1) && decide (n ≤ x.2)) || inS r n) := rfl
    rw [e]
    cases hb : (decide (n ≥ x.1) && decide (n ≤ x.2)) with
    | true => exact ⟨(i : Int), rfl, decide_eq_true (by omega)⟩
    | false => exact ih (i + 1) m h3 (by omega)
theorem span_In.spec (s : List (Int × Int)) (n : Int) (k : Nat) (hl : s.length < 9223372036854775807) (hk : s.length + 3 < k) : span_In.C (B0.call (k + 1)) s n = some (inS s n) := by
  obtain ⟨m, rfl⟩ : ∃ m, k = m + 3 := ⟨k - 3, by omega⟩
  rw [span_In.s, span_In.t, slices_ContainsFunc_api_Span_api_Span.s, slices_ContainsFunc_api_Span_api_Span.t, slices_IndexFunc_api_Span_api_Span.s, slices_IndexFunc_api_Span_api_Span.t]
  obtain ⟨q, h1, h2⟩ := span_In.loop (B0.call (m + 1)) (fun a b n => by rw [span_In_c1.s, span_In_c1.t]; cases decide (n ≥ a) <;> rfl) n s hl s 0 (m + 1) List.drop_zero (by omega)
  have h1 : slices_IndexFunc_api_Span_api_Span.l2 (slices_IndexFunc_api_Span_api_Span.R (B0.call (m + 1)) (m + 1)) s s.length 0 n = some (q, n) := h1
  rw [h1, Option.bind_some, Option.bind_some, h2]

end Go.Proofs.Ytoifbdaaiejbnaa.D
/- pat.ends and pat.Match: just what the pattern takes. -/
namespace Go.Proofs.Ytoifbdaaiejbnaa.D
open Go

abbrev W4 := Nat × Nat × Nat × Nat
def wd (x : W4) : Nat → Nat
  | 0 => x.1
  | 1 => x.2.1
  | 2 => x.2.2.1
  | _ => x.2.2.2
def bitP (x : W4) (i : Nat) : Bool := (wd x (i / 64)).testBit (i % 64)
def okP (x : W4) : Prop := x.1 < 2 ^ 64 ∧ x.2.1 < 2 ^ 64 ∧ x.2.2.1 < 2 ^ 64 ∧ x.2.2.2 < 2 ^ 64
def outW (x : W4) : Int × Int × Int × Int := ((x.1 : Int), (x.2.1 : Int), (x.2.2.1 : Int), (x.2.2.2 : Int))

theorem wrapU {n : Nat} (h : n < 2 ^ 64) : IntKind.wrap .u64 (n : Int) = (n : Int) := by
  have h : n < 18446744073709551616 := h
  rw [IntKind.wrap_u64]; omega

theorem ofIntW {n : Nat} (h : n < 2 ^ 64) : (BitVec.ofInt IntKind.u64.bits (n : Int)).toNat = n := by
  show (BitVec.ofInt 64 (n : Int)).toNat = n
  rw [BitVec.ofInt_natCast, BitVec.toNat_ofNat, Nat.mod_eq_of_lt h]

theorem orW {a b : Nat} (ha : a < 2 ^ 64) (hb : b < 2 ^ 64) : orI .u64 (a : Int) (b : Int) = ((a ||| b : Nat) : Int) := by
  unfold orI
  rw [BitVec.toNat_or, ofIntW ha, ofIntW hb, wrapU (Nat.or_lt_two_pow ha hb)]

theorem andW1 {a : Nat} (ha : a < 2 ^ 64) : andI .u64 (a : Int) 1 = ((a % 2 : Nat) : Int) := by
  unfold andI
  rw [BitVec.toNat_and, ofIntW ha, show (BitVec.ofInt IntKind.u64.bits 1).toNat = 1 from rfl, Nat.and_one_is_mod, wrapU (by omega)]

theorem shrW (a m : Nat) (hm : m < 64) : shrI .u64 (a : Int) (m : Int) = ((a / 2 ^ m : Nat) : Int) := by
  unfold shrI
  rw [Int.toNat_natCast, Nat.min_eq_left (by show m ≤ 64; omega), Int.fdiv_eq_ediv_of_nonneg _ (Int.le_of_lt (Int.pow_pos (by decide))), Int.natCast_ediv, Int.natCast_pow]
  rfl

theorem shlW (m : Nat) (hm : m < 64) : shlI .u64 1 (m : Int) = ((2 ^ m : Nat) : Int) := by
  have h : (List.range 64).all (fun n => decide (shlI .u64 1 (n : Int) = ((2 ^ n : Nat) : Int))) = true := by decide +kernel
  exact of_decide_eq_true (List.all_eq_true.mp h m (List.mem_range.mpr hm))

theorem tdiv64 (i : Nat) (hi : i < 256) : IntKind.wrap .i64 (Int.tdiv (i : Int) 64) = ((i / 64 : Nat) : Int) := by
  have e : Int.tdiv (i : Int) 64 = ((i / 64 : Nat) : Int) := rfl
  rw [e, wrap64 (by omega) (by omega)]
theorem tmod64 (i : Nat) : Int.tmod (i : Int) 64 = ((i % 64 : Nat) : Int) := rfl

theorem idx4 (x : W4) (q : Nat) (hq : q < 4) : idx [(x.1 : Int), (x.2.1 : Int), (x.2.2.1 : Int), (x.2.2.2 : Int)] (q : Int) = some ((wd x q : Nat) : Int) := by
  rw [idx_nat]
  match q, hq with
  | 0, _ => rfl
  | 1, _ => rfl
  | 2, _ => rfl
  | 3, _ => rfl

theorem wd_lt {x : W4} (h : okP x) (q : Nat) : wd x q < 2 ^ 64 := by
  match q with
  | 0 => exact h.1
  | 1 => exact h.2.1
  | 2 => exact h.2.2.1
  | q + 3 => exact h.2.2.2

theorem has.spec (x : W4) (hx : okP x) (i k : Nat) (hi : i < 256) : pat_places_has.C (B0.call (k + 1)) x.1 x.2.1 x.2.2.1 x.2.2.2 i = some (bitP x i) := by
  have hw := wd_lt hx (i / 64)
  rw [pat_places_has.s, pat_places_has.t, tdiv64 i hi, inB_ok (by omega) (by omega), cond_true, idx4 x _ (by omega), Option.bind_some, tmod64, decide_eq_false (by omega), cond_false, shrW _ _ (Nat.mod_lt _ (by decide)), andW1 (Nat.lt_of_le_of_lt (Nat.div_le_self _ _) hw)]
  congr 1
  unfold bitP
  rw [Nat.testBit_eq_decide_div_mod_eq]
  generalize wd x (i / 64) / 2 ^ (i % 64) = z
  by_cases h : z % 2 = 1
  · rw [h]; rfl
  · have h0 : z % 2 = 0 := by omega
    rw [h0]; rfl

def setW (x : W4) (q v : Nat) : W4 := (if q = 0 then v else x.1, if q = 1 then v else x.2.1, if q = 2 then v else x.2.2.1, if q = 3 then v else x.2.2.2)

theorem put.spec (x : W4) (hx : okP x) (i k : Nat) (hi : i < 256) : ∃ y : W4, pat_places_put.C (B0.call (k + 1)) x.1 x.2.1 x.2.2.1 x.2.2.2 i = some (outW y) ∧ okP y ∧ ∀ j, j < 256 → bitP y j = (bitP x j || decide (j = i)) := by
  have hw := wd_lt hx (i / 64)
  have hm : i % 64 < 64 := Nat.mod_lt _ (by decide)
  have hp : 2 ^ (i % 64) < 2 ^ 64 := Nat.pow_lt_pow_right (by decide) hm
  have hor := Nat.or_lt_two_pow hw hp
  refine ⟨setW x (i / 64) (wd x (i / 64) ||| 2 ^ (i % 64)), ?_, ?_, fun j hj => ?_⟩
  · rw [pat_places_put.s, pat_places_put.t, tdiv64 i hi, inB_ok (by omega) (by omega), cond_true, idx4 x _ (by omega), Option.bind_some, tmod64, decide_eq_false (by omega), cond_false, cond_true, shlW _ hm, orW hw hp]
    have hq : i / 64 < 4 := by omega
    generalize i / 64 = q at hq
    match q, hq with
    | 0, _ => rfl
    | 1, _ => rfl
    | 2, _ => rfl
    | 3, _ => rfl
  · obtain ⟨h0, h1, h2, h3⟩ := hx
    unfold setW okP
    refine ⟨?_, ?_, ?_, ?_⟩
    · show (if _ then _ else _) < _; split <;> assumption
    · show (if _ then _ else _) < _; split <;> assumption
    · show (if _ then _ else _) < _; split <;> assumption
    · show (if _ then _ else _) < _; split <;> assumption
  · unfold bitP
    have hq : i / 64 < 4 := by omega
    have hq2 : j / 64 < 4 := by omega
    have e : wd (setW x (i / 64) (wd x (i / 64) ||| 2 ^ (i % 64))) (j / 64) = if i / 64 = j / 64 then wd x (i / 64) ||| 2 ^ (i % 64) else wd x (j / 64) := by
      generalize i / 64 = q at hq
      generalize j / 64 = q2 at hq2
      generalize (wd x q ||| 2 ^ (i % 64)) = v
      match q, q2, hq, hq2 with
      | 0, 0, _, _ => rfl
      | 0, 1, _, _ => rfl
      | 0, 2, _, _ => rfl
      | 0, 3, _, _ => rfl
      | 1, 0, _, _ => rfl
      | 1, 1, _, _ => rfl
      | 1, 2, _, _ => rfl
      | 1, 3, _, _ => rfl
      | 2, 0, _, _ => rfl
      | 2, 1, _, _ => rfl
      | 2, 2, _, _ => rfl
      | 2, 3, _, _ => rfl
      | 3, 0, _, _ => rfl
      | 3, 1, _, _ => rfl
      | 3, 2, _, _ => rfl
      | 3, 3, _, _ => rfl
    rw [e]
    by_cases hij : i / 64 = j / 64
    · rw [if_pos hij, Nat.testBit_or, Nat.testBit_two_pow, hij]
      congr 1
      by_cases e2 : j = i
      · rw [e2]; simp
      · rw [decide_eq_false (show ¬ i % 64 = j % 64 by omega), decide_eq_false e2]
    · rw [if_neg hij, decide_eq_false (show ¬ j = i by intro e2; exact hij (by rw [e2])), Bool.or_false]

theorem with_run (k : Nat) (x0 x1 x2 x3 y0 y1 y2 y3 : Int) : pat_places_with.C (B0.call (k + 8)) x0 x1 x2 x3 y0 y1 y2 y3 = some (orI .u64 x0 y0, orI .u64 x1 y1, orI .u64 x2 y2, orI .u64 x3 y3) := by kernel_rfl

def orP (x y : W4) : W4 := (x.1 ||| y.1, x.2.1 ||| y.2.1, x.2.2.1 ||| y.2.2.1, x.2.2.2 ||| y.2.2.2)
theorem orP_ok {x y : W4} (hx : okP x) (hy : okP y) : okP (orP x y) := ⟨Nat.or_lt_two_pow hx.1 hy.1, Nat.or_lt_two_pow hx.2.1 hy.2.1, Nat.or_lt_two_pow hx.2.2.1 hy.2.2.1, Nat.or_lt_two_pow hx.2.2.2 hy.2.2.2⟩
theorem orP_bit (x y : W4) (j : Nat) : bitP (orP x y) j = (bitP x j || bitP y j) := by
  unfold bitP
  have e : wd (orP x y) (j / 64) = wd x (j / 64) ||| wd y (j / 64) := by
    match j / 64 with
    | 0 => rfl
    | 1 => rfl
    | 2 => rfl
    | q + 3 => rfl
  rw [e, Nat.testBit_or]
theorem with.spec (x y : W4) (hx : okP x) (hy : okP y) (k : Nat) : pat_places_with.C (B0.call (k + 8)) x.1 x.2.1 x.2.2.1 x.2.2.2 y.1 y.2.1 y.2.2.1 y.2.2.2 = some (outW (orP x y)) := by
  rw [with_run, orW hx.1 hy.1, orW hx.2.1 hy.2.1, orW hx.2.2.1 hy.2.2.1, orW hx.2.2.2 hy.2.2.2]; rfl

end Go.Proofs.Ytoifbdaaiejbnaa.D
/- pat.ends by what a pattern takes; pat.Match. -/
namespace Go.Proofs.Ytoifbdaaiejbnaa.D
open Go

def Sl (path : List Int) (i j : Nat) : List Int := (path.drop i).take (j - i)

theorem Sl_self (path : List Int) (i : Nat) : Sl path i i = [] := by unfold Sl; rw [Nat.sub_self, List.take_zero]
theorem Sl_append (path : List Int) {i m j : Nat} (h1 : i ≤ m) (h2 : m ≤ j) : Sl path i j = Sl path i m ++ Sl path m j := by
  unfold Sl
  rw [show j - i = (m - i) + (j - m) by omega, List.take_add, List.drop_drop, show i + (m - i) = m by omega]
theorem Sl_len (path : List Int) {i j : Nat} (h1 : i ≤ j) (h2 : j ≤ path.length) : (Sl path i j).length = j - i := by
  unfold Sl; rw [List.length_take, List.length_drop]; omega
theorem Sl_split (path : List Int) {i j : Nat} {u v : List Int} (h1 : i ≤ j) (h2 : j ≤ path.length) (h : Sl path i j = u ++ v) : ∃ m, i ≤ m ∧ m ≤ j ∧ Sl path i m = u ∧ Sl path m j = v := by
  have hl := congrArg List.length h
  rw [Sl_len path h1 h2, List.length_append] at hl
  have e := Sl_append path (i := i) (m := i + u.length) (j := j) (by omega) (by omega)
  rw [h] at e
  have hl2 : u.length = (Sl path i (i + u.length)).length := by rw [Sl_len path (by omega) (by omega)]; omega
  obtain ⟨e1, e2⟩ := List.append_inj e hl2
  exact ⟨i + u.length, by omega, by omega, e1.symm, e2.symm⟩
theorem Sl_one (path : List Int) {i : Nat} (h : i < path.length) : Sl path i (i + 1) = [path[i]] := by
  unfold Sl
  rw [List.drop_eq_getElem_cons h, show i + 1 - i = 1 by omega]
  rfl
theorem Sl_all (path : List Int) : Sl path 0 path.length = path := by unfold Sl; simp

def Reach (A : List Int → Prop) (path : List Int) (at_ : Nat → Prop) (j : Nat) : Prop := j ≤ path.length ∧ ∃ i, i ≤ j ∧ at_ i ∧ A (Sl path i j)

theorem Reach.congr {A B : List Int → Prop} {path : List Int} {a b : Nat → Prop} (h : ∀ w, A w ↔ B w) (h2 : ∀ i, i ≤ path.length → (a i ↔ b i)) (j : Nat) : Reach A path a j ↔ Reach B path b j := by
  constructor
  · rintro ⟨h3, i, h4, h5, h6⟩; exact ⟨h3, i, h4, (h2 i (by omega)).mp h5, (h _).mp h6⟩
  · rintro ⟨h3, i, h4, h5, h6⟩; exact ⟨h3, i, h4, (h2 i (by omega)).mpr h5, (h _).mpr h6⟩

theorem Reach.comp {A B : List Int → Prop} {path : List Int} {a : Nat → Prop} (j : Nat) : Reach B path (Reach A path a) j ↔ Reach (fun w => ∃ u v, w = u ++ v ∧ A u ∧ B v) path a j := by
  constructor
  · rintro ⟨h1, m, h2, ⟨h3, i, h4, h5, h6⟩, h7⟩
    exact ⟨h1, i, by omega, h5, Sl path i m, Sl path m j, Sl_append path h4 h2, h6, h7⟩
  · rintro ⟨h1, i, h2, h3, u, v, e, h4, h5⟩
    obtain ⟨m, h6, h7, h8, h9⟩ := Sl_split path h2 h1 e
    exact ⟨h1, m, h7, ⟨by omega, i, h6, h3, by rw [h8]; exact h4⟩, by rw [h9]; exact h5⟩

/- bits that lie in the path -/
structure Bits (path : List Int) (x : W4) : Prop where
  ok : okP x
  le : ∀ i, i < 256 → bitP x i = true → i ≤ path.length

def EndsOk (C : B0.Call) (path : List Int) (p : Pat) : Prop := ∀ x, Bits path x → ∃ y : W4, pat_ends.C C p.kind p.set p.subs path x.1 x.2.1 x.2.2.1 x.2.2.2 = some (outW y) ∧ Bits path y ∧ ∀ j, j < 256 → (bitP y j = true ↔ Reach (Lang p) path (fun i => bitP x i = true) j)

structure EndF (C : B0.Call) : Prop where
  has : ∀ (x : W4), okP x → ∀ i : Nat, i < 256 → pat_places_has.C C x.1 x.2.1 x.2.2.1 x.2.2.2 i = some (bitP x i)
  put : ∀ (x : W4), okP x → ∀ i : Nat, i < 256 → ∃ y : W4, pat_places_put.C C x.1 x.2.1 x.2.2.1 x.2.2.2 i = some (outW y) ∧ okP y ∧ ∀ j, j < 256 → bitP y j = (bitP x j || decide (j = i))
  with_ : ∀ (x y : W4), okP x → okP y → pat_places_with.C C x.1 x.2.1 x.2.2.1 x.2.2.2 y.1 y.2.1 y.2.2.1 y.2.2.2 = some (outW (orP x y))
  in_ : ∀ s n, s.length ≤ 256 → span_In.C C s n = some (inS s n)

theorem endF_ok (k : Nat) (hk : 1000 < k) : EndF (B0.call (k + 8)) where
  has x hx i hi := has.spec x hx i _ hi
  put x hx i hi := put.spec x hx i _ hi
  with_ x y hx hy := with.spec x y hx hy k
  in_ s n hs := span_In.spec s n _ (by omega) (by omega)

theorem ends.one {C : B0.Call} (hC : EndF C) (path : List Int) (hp : path.length ≤ 255) (kd : Int) (s : List (Int × Int)) (hs : s.length ≤ 256) (l : List Pat) (x : W4) (hx : okP x) (t0 t1 t2 t3 : Int) :
    ∀ (r : List Int) (i j : Nat) (o : W4), path.drop i = r → r.length < j → Bits path o →
      ∃ y : W4, pat_ends.l5 (pat_ends.R C j) kd s l x.1 x.2.1 x.2.2.1 x.2.2.2 t0 t1 t2 t3 o.1 o.2.1 o.2.2.1 o.2.2.2 path path.length i = some (outW y) ∧ Bits path y ∧
        ∀ q, q < 256 → (bitP y q = true ↔ bitP o q = true ∨ ∃ (m : Nat) (n : Int), i ≤ m ∧ q = m + 1 ∧ path[m]? = some n ∧ bitP x m = true ∧ inS s n = true) := by
  intro r
  induction r with
  | nil =>
    intro i j o hr hj ho
    obtain ⟨m, rfl, hm⟩ := succ_of hj
    have hle := drop_nil' hr
    rw [pat_ends.s5, pat_ends.t5, dec_ge hle, cond_false]
    refine ⟨o, rfl, ho, fun q hq => ⟨Or.inl, fun h => h.elim id ?_⟩⟩
    rintro ⟨m', n, h1, _, h3, _⟩
    have := (List.getElem?_eq_some_iff.1 h3).1
    omega
  | cons n r ih =>
    intro i j o hr hj ho
    obtain ⟨m, rfl, hm⟩ := succ_of hj
    obtain ⟨h1, h2, h3⟩ := drop_cons' hr
    rw [List.length_cons] at hj
    rw [pat_ends.s5, pat_ends.t5, dec_lt h1, cond_true, idx_nat, h2, Option.bind_some, hC.has x hx i (by omega), Option.bind_some, hC.in_ s n hs, Option.bind_some, wrapS i (by omega)]
    have same : (bitP x i = false ∨ inS s n = false) → ∃ y : W4, pat_ends.l5 (pat_ends.R C m) kd s l x.1 x.2.1 x.2.2.1 x.2.2.2 t0 t1 t2 t3 o.1 o.2.1 o.2.2.1 o.2.2.2 path path.length ((i + 1 : Nat) : Int) = some (outW y) ∧ Bits path y ∧
        ∀ q, q < 256 → (bitP y q = true ↔ bitP o q = true ∨ ∃ (m : Nat) (n : Int), i ≤ m ∧ q = m + 1 ∧ path[m]? = some n ∧ bitP x m = true ∧ inS s n = true) := by
      intro hno
      obtain ⟨y, e1, e2, e3⟩ := ih (i + 1) m o h3 (by omega) ho
      refine ⟨y, e1, e2, fun q hq => (e3 q hq).trans ⟨fun h => h.elim Or.inl ?_, fun h => h.elim Or.inl ?_⟩⟩
      · rintro ⟨a, b, c1, c2⟩; exact Or.inr ⟨a, b, by omega, c2⟩
      · rintro ⟨a, b, c1, c2, c3, c4, c5⟩
        by_cases e : a = i
        · subst e
          rw [h2] at c3
          cases c3
          rcases hno with h | h
          · rw [h] at c4; cases c4
          · rw [h] at c5; cases c5
        · exact Or.inr ⟨a, b, by omega, c2, c3, c4, c5⟩
    cases hb : bitP x i with
    | false => exact same (Or.inl hb)
    | true =>
      rw [cond_true]
      cases hn : inS s n with
      | false => exact same (Or.inr hn)
      | true =>
        rw [cond_true]
        obtain ⟨o', f1, f2, f3⟩ := hC.put o ho.ok (i + 1) (by omega)
        rw [f1, Option.bind_some]
        have ho' : Bits path o' := ⟨f2, fun q hq hbq => by
          rw [f3 q hq, Bool.or_eq_true, decide_eq_true_eq] at hbq
          rcases hbq with h | h
          · exact ho.le q hq h
          · omega⟩
        obtain ⟨y, e1, e2, e3⟩ := ih (i + 1) m o' h3 (by omega) ho'
        refine ⟨y, e1, e2, fun q hq => (e3 q hq).trans ?_⟩
        rw [f3 q hq, Bool.or_eq_true, decide_eq_true_eq]
        constructor
        · rintro ((h | h) | ⟨a, b, c1, c2⟩)
          · exact Or.inl h
          · exact Or.inr ⟨i, n, Nat.le_refl _, h, h2, hb, hn⟩
          · exact Or.inr ⟨a, b, by omega, c2⟩
        · rintro (h | ⟨a, b, c1, c2, c3, c4, c5⟩)
          · exact Or.inl (Or.inl h)
          · by_cases e : a = i
            · subst e; exact Or.inl (Or.inr c2)
            · exact Or.inr ⟨a, b, by omega, c2, c3, c4, c5⟩

theorem ends.cat {C : B0.Call} (path : List Int) (hp : path.length ≤ 255) (ps : List Pat) (hps : ps.length < 9223372036854775807) (h : ∀ q ∈ ps, EndsOk C path q) (t0 t1 t2 t3 : Int) :
    ∀ (r : List Pat) (i j : Nat) (o : W4), ps.drop i = r → r.length < j → Bits path o →
      ∃ y : W4, pat_ends.l13 (pat_ends.R C j) path t0 t1 t2 t3 o.1 o.2.1 o.2.2.1 o.2.2.2 ps ps.length i = some (outW y) ∧ Bits path y ∧ ∀ q, q < 256 → (bitP y q = true ↔ Reach (LangC r) path (fun i => bitP o i = true) q) := by
  intro r
  induction r with
  | nil =>
    intro i j o hr hj ho
    obtain ⟨m, rfl, hm⟩ := succ_of hj
    rw [pat_ends.s13, pat_ends.t13, dec_ge (drop_nil' hr), cond_false]
    refine ⟨o, rfl, ho, fun q hq => ?_⟩
    rw [LangC]
    constructor
    · intro hb
      exact ⟨ho.le q hq hb, q, Nat.le_refl _, hb, Sl_self path q⟩
    · rintro ⟨h1, a, h2, h3, h4⟩
      have := congrArg List.length h4
      rw [Sl_len path h2 h1, List.length_nil] at this
      have e : a = q := by omega
      subst e; exact h3
  | cons p r ih =>
    intro i j o hr hj ho
    obtain ⟨m, rfl, hm⟩ := succ_of hj
    obtain ⟨h1, h2, h3⟩ := drop_cons' hr
    rw [List.length_cons] at hj
    obtain ⟨z, g1, g2, g3⟩ := h p (List.mem_of_getElem? h2) o ho
    rw [pat_ends.s13, pat_ends.t13, dec_lt h1, cond_true, idx_nat, h2, Option.bind_some, g1, Option.bind_some, wrapS i (by omega)]
    obtain ⟨y, e1, e2, e3⟩ := ih (i + 1) m z h3 (by omega) g2
    refine ⟨y, e1, e2, fun q hq => (e3 q hq).trans ?_⟩
    rw [LangC, ← Reach.comp]
    exact Reach.congr (fun w => Iff.rfl) (fun a ha => g3 a (by omega)) q

theorem ends.alt {C : B0.Call} (hC : EndF C) (path : List Int) (hp : path.length ≤ 255) (ps : List Pat) (hps : ps.length < 9223372036854775807) (h : ∀ q ∈ ps, EndsOk C path q) (x : W4) (hx : Bits path x) (t0 t1 t2 t3 : Int) :
    ∀ (r : List Pat) (i j : Nat) (o : W4), ps.drop i = r → r.length < j → Bits path o →
      ∃ y : W4, pat_ends.l19 (pat_ends.R C j) path x.1 x.2.1 x.2.2.1 x.2.2.2 t0 t1 t2 t3 o.1 o.2.1 o.2.2.1 o.2.2.2 ps ps.length i = some (outW y) ∧ Bits path y ∧ ∀ q, q < 256 → (bitP y q = true ↔ bitP o q = true ∨ Reach (LangA r) path (fun i => bitP x i = true) q) := by
  intro r
  induction r with
  | nil =>
    intro i j o hr hj ho
    obtain ⟨m, rfl, hm⟩ := succ_of hj
    rw [pat_ends.s19, pat_ends.t19, dec_ge (drop_nil' hr), cond_false]
    refine ⟨o, rfl, ho, fun q hq => ⟨Or.inl, fun h => h.elim id ?_⟩⟩
    rw [LangA]
    rintro ⟨_, a, _, _, h4⟩
    exact h4.elim
  | cons p r ih =>
    intro i j o hr hj ho
    obtain ⟨m, rfl, hm⟩ := succ_of hj
    obtain ⟨h1, h2, h3⟩ := drop_cons' hr
    rw [List.length_cons] at hj
    obtain ⟨z, g1, g2, g3⟩ := h p (List.mem_of_getElem? h2) x hx
    have hw : pat_places_with.C C o.1 o.2.1 o.2.2.1 o.2.2.2 (outW z).1 (outW z).2.1 (outW z).2.2.1 (outW z).2.2.2 = some (outW (orP o z)) := hC.with_ o z ho.ok g2.ok
    rw [pat_ends.s19, pat_ends.t19, dec_lt h1, cond_true, idx_nat, h2, Option.bind_some, g1, Option.bind_some, hw, Option.bind_some, wrapS i (by omega)]
    have hb : Bits path (orP o z) := ⟨orP_ok ho.ok g2.ok, fun q hq hbq => by
      rw [orP_bit, Bool.or_eq_true] at hbq
      exact hbq.elim (ho.le q hq) (g2.le q hq)⟩
    obtain ⟨y, e1, e2, e3⟩ := ih (i + 1) m (orP o z) h3 (by omega) hb
    refine ⟨y, e1, e2, fun q hq => (e3 q hq).trans ?_⟩
    rw [orP_bit, Bool.or_eq_true, g3 q hq, LangA]
    constructor
    · rintro ((h | ⟨a1, b, a2, a3, a4⟩) | ⟨a1, b, a2, a3, a4⟩)
      · exact Or.inl h
      · exact Or.inr ⟨a1, b, a2, a3, Or.inl a4⟩
      · exact Or.inr ⟨a1, b, a2, a3, Or.inr a4⟩
    · rintro (h | ⟨a1, b, a2, a3, a4 | a4⟩)
      · exact Or.inl (Or.inl h)
      · exact Or.inl (Or.inr ⟨a1, b, a2, a3, a4⟩)
      · exact Or.inr ⟨a1, b, a2, a3, a4⟩

def sumW (x : W4) : Nat := x.1 + x.2.1 + x.2.2.1 + x.2.2.2

theorem ends.star {C : B0.Call} (hC : EndF C) (path : List Int) (hp : path.length ≤ 255) (p : Pat) (l : List Pat) (kd : Int) (s : List (Int × Int)) (h : EndsOk C path p) (x : W4) (t0 t1 t2 t3 : Int) :
    ∀ (N j : Nat) (o : W4), 4 * 2 ^ 64 ≤ sumW o + N → N < j → Bits path o → (∀ i, i < 256 → bitP x i = true → bitP o i = true) → (∀ i, i < 256 → bitP o i = true → Reach (StarL (Lang p)) path (fun i => bitP x i = true) i) →
      ∃ y : W4, pat_ends.l25 (pat_ends.R C j) path kd s (p :: l) t0 t1 t2 t3 o.1 o.2.1 o.2.2.1 o.2.2.2 = some (outW y) ∧ Bits path y ∧ ∀ q, q < 256 → (bitP y q = true ↔ Reach (StarL (Lang p)) path (fun i => bitP x i = true) q) := by
  intro N
  induction N with
  | zero =>
    intro j o hs hj ho _ _
    have := ho.ok
    unfold okP at this
    unfold sumW at hs
    omega
  | succ N ih =>
    intro j o hs hj ho hsub hclo
    obtain ⟨m, rfl, hm⟩ := succ_of (Nat.lt_of_le_of_lt (Nat.zero_le _) hj)
    obtain ⟨z, g1, g2, g3⟩ := h o ho
    have hw : pat_places_with.C C o.1 o.2.1 o.2.2.1 o.2.2.2 (outW z).1 (outW z).2.1 (outW z).2.2.1 (outW z).2.2.2 = some (outW (orP o z)) := hC.with_ o z ho.ok g2.ok
    rw [pat_ends.s25, pat_ends.t25, idx_zero]
    show ∃ y : W4, Option.bind (some p) _ = _ ∧ _
    rw [Option.bind_some, g1, Option.bind_some, hw, Option.bind_some]
    have stepIn : ∀ q, q < 256 → bitP z q = true → Reach (StarL (Lang p)) path (fun i => bitP x i = true) q := fun q hq hz => by
      obtain ⟨b1, a, b2, b3, b4⟩ := (g3 q hq).mp hz
      obtain ⟨c1, i, c2, c3, c4⟩ := hclo a (by omega) b3
      refine ⟨b1, i, by omega, c3, ?_⟩
      rw [Sl_append path c2 b2]
      have snoc : ∀ u v, StarL (Lang p) u → Lang p v → StarL (Lang p) (u ++ v) := by
        intro u v hu hv
        induction hu with
        | nil => have := StarL.cons v [] hv .nil; rwa [List.append_nil] at this
        | cons a b ha _ ih2 => rw [List.append_assoc]; exact .cons a (b ++ v) ha ih2
      exact snoc _ _ c4 b4
    have eqb : ((eqI (outW (orP o z)).1 o.1) && ((eqI (outW (orP o z)).2.1 o.2.1) && ((eqI (outW (orP o z)).2.2.1 o.2.2.1) && ((eqI (outW (orP o z)).2.2.2 o.2.2.2) && true)))) = decide (orP o z = o) := by
      obtain ⟨o0, o1, o2, o3⟩ := o
      obtain ⟨z0, z1, z2, z3⟩ := z
      have e : ∀ a b : Nat, eqI (a : Int) (b : Int) = decide (a = b) := fun a b => by
        unfold eqI
        by_cases h : a = b
        · subst h; simp
        · have h9 : ¬ (a : Int) = (b : Int) := by omega
          rw [decide_eq_false h]; simp [h9]
      show ((eqI ((o0 ||| z0 : Nat) : Int) (o0 : Int)) && ((eqI ((o1 ||| z1 : Nat) : Int) (o1 : Int)) && ((eqI ((o2 ||| z2 : Nat) : Int) (o2 : Int)) && ((eqI ((o3 ||| z3 : Nat) : Int) (o3 : Int)) && true)))) = decide ((o0 ||| z0, o1 ||| z1, o2 ||| z2, o3 ||| z3) = (o0, o1, o2, o3))
      rw [e, e, e, e]
      by_cases h0 : (o0 ||| z0) = o0 <;> by_cases h1 : (o1 ||| z1) = o1 <;> by_cases h2 : (o2 ||| z2) = o2 <;> by_cases h3 : (o3 ||| z3) = o3 <;> simp [h0, h1, h2, h3]
    rw [eqb]
    by_cases he : orP o z = o
    · rw [decide_eq_true he, cond_true]
      refine ⟨o, rfl, ho, fun q hq => ⟨hclo q hq, ?_⟩⟩
      rintro ⟨b1, i, b2, b3, b4⟩
      -- closed under one step more
      have closed : ∀ a q, a ≤ q → q ≤ path.length → bitP o a = true → Lang p (Sl path a q) → bitP o q = true := fun a q c1 c2 c3 c4 => by
        have hz := (g3 q (by omega)).mpr ⟨c2, a, c1, c3, c4⟩
        have := orP_bit o z q
        rw [he, hz, Bool.or_true] at this
        exact this
      have key : ∀ w, StarL (Lang p) w → ∀ a, a ≤ q → bitP o a = true → Sl path a q = w → bitP o q = true := by
        intro w hw
        induction hw with
        | nil =>
          intro a c1 c2 c3
          have := congrArg List.length c3
          rw [Sl_len path c1 b1, List.length_nil] at this
          have e : a = q := by omega
          subst e; exact c2
        | cons u v hu _ ih2 =>
          intro a c1 c2 c3
          obtain ⟨m', d1, d2, d3, d4⟩ := Sl_split path c1 b1 c3
          exact ih2 m' d2 (closed a m' d1 (by omega) c2 (by rw [d3]; exact hu)) d4
      exact key _ b4 i b2 (hsub i (by omega) b3) rfl
    · rw [decide_eq_false he, cond_false]
      have hb : Bits path (orP o z) := ⟨orP_ok ho.ok g2.ok, fun q hq hbq => by
        rw [orP_bit, Bool.or_eq_true] at hbq
        exact hbq.elim (ho.le q hq) (g2.le q hq)⟩
      refine ih m (orP o z) ?_ (by omega) hb (fun i hi hx => by rw [orP_bit, hsub i hi hx, Bool.true_or]) (fun q hq hbq => ?_)
      · have l0 := Nat.left_le_or (n := o.1) (m := z.1)
        have l1 := Nat.left_le_or (n := o.2.1) (m := z.2.1)
        have l2 := Nat.left_le_or (n := o.2.2.1) (m := z.2.2.1)
        have l3 := Nat.left_le_or (n := o.2.2.2) (m := z.2.2.2)
        have : ¬ ((o.1 ||| z.1) = o.1 ∧ (o.2.1 ||| z.2.1) = o.2.1 ∧ (o.2.2.1 ||| z.2.2.1) = o.2.2.1 ∧ (o.2.2.2 ||| z.2.2.2) = o.2.2.2) := fun h => he (by
          unfold orP
          rw [h.1, h.2.1, h.2.2.1, h.2.2.2])
        have e : sumW (orP o z) = (o.1 ||| z.1) + (o.2.1 ||| z.2.1) + (o.2.2.1 ||| z.2.2.1) + (o.2.2.2 ||| z.2.2.2) := rfl
        rw [e]
        unfold sumW at hs
        omega
      · rw [orP_bit, Bool.or_eq_true] at hbq
        exact hbq.elim (hclo q hq) (stepIn q hq)

theorem zeroBits (path : List Int) : Bits path (0, 0, 0, 0) := by
  have hz : ∀ i, bitP (0, 0, 0, 0) i = false := fun i => by
    unfold bitP
    have : wd (0, 0, 0, 0) (i / 64) = 0 := by
      match i / 64 with
      | 0 => rfl
      | 1 => rfl
      | 2 => rfl
      | q + 3 => rfl
    rw [this, Nat.zero_testBit]
  exact ⟨⟨by decide, by decide, by decide, by decide⟩, fun i _ h => by rw [hz i] at h; cases h⟩
theorem zero_bit (i : Nat) : bitP (0, 0, 0, 0) i = false := by
  unfold bitP
  have : wd (0, 0, 0, 0) (i / 64) = 0 := by
    match i / 64 with
    | 0 => rfl
    | 1 => rfl
    | 2 => rfl
    | q + 3 => rfl
  rw [this, Nat.zero_testBit]

theorem ends.spec (path : List Int) (hp : path.length ≤ 255) : ∀ (n : Nat) (p : Pat) (k : Nat), p.parts ≤ n → n < 4611686018427387904 → p.fits = true → 4 * 2 ^ 64 + 2000 + n < k → EndsOk (B0.call k) path p := by
  intro n
  induction n with
  | zero => intro p k h; have := p.parts_pos; omega
  | succ n ih =>
    intro p k hpn hn hfit hk x hx
    obtain ⟨k, rfl⟩ : ∃ m, k = m + 9 := ⟨k - 9, by omega⟩
    have hF := endF_ok k (by omega)
    have hsub : ∀ q ∈ p.subs, EndsOk (B0.call (k + 8)) path q := fun q hq => ih q (k + 8) (by have := Pat.parts_sub hq; omega) (by omega) (fits_sub hfit q hq) (by omega)
    have e1 := p.parts_eq
    have e2 := Pat.partsL_len p.subs
    rw [pat_ends.s, pat_ends.t]
    by_cases k1 : p.kind = 1
    · have hset : p.set.length ≤ 256 := by
        rw [p.fits_eq, if_pos k1] at hfit
        have := (Bool.and_eq_true _ _).mp hfit
        simpa using this.2
      rw [show (p.kind == 1) = true from by simp [k1], cond_true]
      obtain ⟨y, g1, g2, g3⟩ := ends.one hF path hp p.kind p.set hset p.subs x hx.ok 0 0 0 0 path 0 (k + 8) (0, 0, 0, 0) List.drop_zero (by omega) (zeroBits path)
      refine ⟨y, g1, g2, fun q hq => (g3 q hq).trans ?_⟩
      rw [zero_bit]
      constructor
      · rintro (h | ⟨m, n, h1, rfl, h3, h4, h5⟩)
        · cases h
        · have hlt := (List.getElem?_eq_some_iff.1 h3).1
          have e3 : path[m] = n := by rw [List.getElem?_eq_getElem hlt] at h3; exact Option.some.inj h3
          exact ⟨hlt, m, Nat.le_succ m, h4, (Lang_eq p _).mpr (Or.inl ⟨k1, n, by rw [Sl_one path hlt, e3], (inS_iff _ _).mp h5⟩)⟩
      · rintro ⟨h1, m, h2, h3, h4⟩
        rcases (Lang_eq p _).mp h4 with h | h | h | h
        · obtain ⟨_, n, h5, h6⟩ := h
          have hl := congrArg List.length h5
          rw [Sl_len path h2 h1] at hl
          have hl : q - m = 1 := hl
          have eq : q = m + 1 := by omega
          subst eq
          have hlt : m < path.length := by omega
          rw [Sl_one path hlt] at h5
          have e3 : path[m] = n := by cases h5; rfl
          exact Or.inr ⟨m, n, Nat.zero_le _, rfl, by rw [List.getElem?_eq_getElem hlt, e3], h3, (inS_iff _ _).mpr h6⟩
        · omega
        · omega
        · omega
    · rw [show (p.kind == 1) = false from by simp [k1], cond_false]
      by_cases k2 : p.kind = 2
      · rw [show (p.kind == 2) = true from by simp [k2], cond_true]
        obtain ⟨y, g1, g2, g3⟩ := ends.cat path hp p.subs (by omega) hsub 0 0 0 0 p.subs 0 (k + 8) x List.drop_zero (by omega) hx
        refine ⟨y, g1, g2, fun q hq => (g3 q hq).trans (Reach.congr (fun w => ?_) (fun _ _ => Iff.rfl) q)⟩
        rw [Lang_eq]
        constructor
        · intro h; exact Or.inr (Or.inl ⟨k2, h⟩)
        · rintro (h | h | h | h)
          · omega
          · exact h.2
          · omega
          · omega
      · rw [show (p.kind == 2) = false from by simp [k2], cond_false]
        by_cases k3 : p.kind = 3
        · rw [show (p.kind == 3) = true from by simp [k3], cond_true]
          obtain ⟨y, g1, g2, g3⟩ := ends.alt hF path hp p.subs (by omega) hsub x hx 0 0 0 0 p.subs 0 (k + 8) (0, 0, 0, 0) List.drop_zero (by omega) (zeroBits path)
          refine ⟨y, g1, g2, fun q hq => (g3 q hq).trans ?_⟩
          rw [zero_bit]
          refine Iff.trans ⟨fun h => h.elim (fun h => by cases h) id, Or.inr⟩ (Reach.congr (fun w => ?_) (fun _ _ => Iff.rfl) q)
          rw [Lang_eq]
          constructor
          · intro h; exact Or.inr (Or.inr (Or.inl ⟨k3, h⟩))
          · rintro (h | h | h | h)
            · omega
            · omega
            · exact h.2
            · omega
        · rw [show (p.kind == 3) = false from by simp [k3], cond_false]
          have hone : p.kind = 4 ∧ ∃ q, p.subs = [q] := by
            rw [p.fits_eq, if_neg k1] at hfit
            split at hfit
            · rename_i hk4
              have k4 : p.kind = 4 := by omega
              have h5 := (Bool.and_eq_true _ _).mp hfit
              have h6 := ((Bool.and_eq_true _ _).mp h5.1).2
              have h7 : p.subs.length = 1 := by simpa [k4] using h6
              match h8 : p.subs, h7 with
              | [q], _ => exact ⟨k4, q, rfl⟩
            · cases hfit
          obtain ⟨k4, q, hq⟩ := hone
          rw [show (p.kind == 4) = true from by simp [k4], cond_true, hq]
          obtain ⟨y, g1, g2, g3⟩ := ends.star hF path hp q [] p.kind p.set (hsub q (by rw [hq]; exact List.mem_cons_self)) x 0 0 0 0 (4 * 2 ^ 64) (k + 8) x (by omega) (by omega) hx (fun _ _ h => h)
            (fun i hi hb => ⟨hx.le i hi hb, i, Nat.le_refl _, hb, by rw [Sl_self]; exact .nil⟩)
          refine ⟨y, g1, g2, fun j hj => (g3 j hj).trans (Reach.congr (fun w => ?_) (fun _ _ => Iff.rfl) j)⟩
          rw [Lang_eq, hq, LangS]
          constructor
          · intro h; exact Or.inr (Or.inr (Or.inr ⟨k4, h⟩))
          · rintro (h | h | h | h)
            · omega
            · omega
            · omega
            · exact h.2

/- pat.Match of a right pattern and a path that isn't too long -/
theorem match_spec (p : Pat) (hr : p.right = true) (path : List Int) (hp : path.length ≤ 255) (k : Nat) (hk : 4 * 2 ^ 64 + 4000 < k) : ∃ b, pat_Match.C (B0.call (k + 1)) p.kind p.set p.subs path = some b ∧ (b = true ↔ Lang p path) := by
  have h1 := (Bool.and_eq_true _ _).mp hr
  have h2 := (Bool.and_eq_true _ _).mp h1.1
  have hpa : p.parts ≤ 200 := of_decide_eq_true h2.1
  obtain ⟨m, rfl⟩ : ∃ m, k = m + 8 := ⟨k - 8, by omega⟩
  have hF := endF_ok m (by omega)
  obtain ⟨x, f1, f2, f3⟩ := hF.put (0, 0, 0, 0) (zeroBits path).ok 0 (by decide)
  have f1 : pat_places_put.C (B0.call (m + 8)) 0 0 0 0 0 = some (outW x) := f1
  have hx : Bits path x := ⟨f2, fun i hi hb => by
    rw [f3 i hi, zero_bit, Bool.false_or, decide_eq_true_eq] at hb
    omega⟩
  obtain ⟨y, g1, g2, g3⟩ := ends.spec path hp 200 p (m + 8) hpa (by decide) h1.2 (by omega) x hx
  have g1 : pat_ends.C (B0.call (m + 8)) p.kind p.set p.subs path (outW x).1 (outW x).2.1 (outW x).2.2.1 (outW x).2.2.2 = some (outW y) := g1
  have hh : pat_places_has.C (B0.call (m + 8)) (outW y).1 (outW y).2.1 (outW y).2.2.1 (outW y).2.2.2 (path.length : Int) = some (bitP y path.length) := hF.has y g2.ok path.length (by omega)
  refine ⟨bitP y path.length, ?_, ?_⟩
  · rw [pat_Match.s, pat_Match.t, pat_Right.specP p (m + 8) (by omega) (by omega), Option.bind_some, hr, Bool.not_true, cond_false, decide_eq_false (by omega), cond_false, f1, Option.bind_some, g1, Option.bind_some, hh, Option.bind_some]
  · rw [g3 path.length (by omega)]
    constructor
    · rintro ⟨_, i, h3, h4, h5⟩
      rw [f3 i (by omega), zero_bit, Bool.false_or, decide_eq_true_eq] at h4
      subst h4
      rwa [Sl_all] at h5
    · intro h
      exact ⟨Nat.le_refl _, 0, Nat.zero_le _, by show bitP x 0 = true; rw [f3 0 (by decide), zero_bit]; rfl, by rw [Sl_all]; exact h⟩

end Go.Proofs.Ytoifbdaaiejbnaa.D
/- The law PosEnds. -/
namespace Go.Proofs.Ytoifbdaaiejbnaa.D
open Go

/- sets stay short -/
theorem fold_len : ∀ (r acc : List (Int × Int)), (r.foldl mergeP acc).length ≤ acc.length + r.length
  | [], acc => Nat.le_refl _
  | x :: r, acc => by
    have := fold_len r (mergeP acc x)
    have := mergeP_len acc x
    rw [List.foldl_cons, List.length_cons]
    omega
theorem normP_len (s : List (Int × Int)) (hl : s.length ≤ 256) : (normP s).length ≤ 256 := by
  have hfl := List.length_filter_le (fun s : Int × Int => decide (s.1 ≤ s.2)) s
  obtain ⟨r, hr⟩ := sortSpan_some (s.filter fun s => decide (s.1 ≤ s.2)) (by omega)
  have hp := (sortSpan_sorts hr).1.length_eq
  unfold normP sortP
  rw [hr, List.length_reverse]
  have := fold_len r []
  show (r.foldl mergeP []).length ≤ 256
  rw [List.length_nil] at this
  omega
def ShortS (S : Sets) : Prop := ∀ s ∈ S, s.length ≤ 256
def ShortP (p : Pat) : Prop := ∀ S F, ShortS S → ShortS (partP p S F).2.1
theorem short_cat : ∀ (l : List Pat) (hl : ∀ p ∈ l, ShortP p) (o : Told) (S : Sets) (F : List (List Int)), ShortS S → ShortS (catP l o S F).2.1
  | [], _, o, S, F, h => by rw [catP]; exact h
  | p :: l, hl, o, S, F, h => by rw [catP]; exact short_cat l (fun q hq => hl q (List.mem_cons_of_mem _ hq)) _ _ _ (hl p List.mem_cons_self S F h)
theorem short_alt : ∀ (l : List Pat) (hl : ∀ p ∈ l, ShortP p) (o : Told) (S : Sets) (F : List (List Int)), ShortS S → ShortS (altP l o S F).2.1
  | [], _, o, S, F, h => by rw [altP]; exact h
  | p :: l, hl, o, S, F, h => by rw [altP]; exact short_alt l (fun q hq => hl q (List.mem_cons_of_mem _ hq)) _ _ _ (hl p List.mem_cons_self S F h)
theorem short_part (p : Pat) : p.fits = true → ShortP p := by
  refine Pat.induct (motive := fun p => p.fits = true → ShortP p) (fun p ih hf => ?_) p
  have subs : ∀ q ∈ p.subs, ShortP q := fun q hq => ih q hq (fits_sub hf q hq)
  intro S F hS
  rw [partP_eq]
  split
  · rename_i k1
    rw [p.fits_eq, if_pos k1] at hf
    have hlen : p.set.length ≤ 256 := by
      have := (Bool.and_eq_true _ _).mp hf
      simpa using this.2
    intro s hs
    rcases List.mem_append.mp hs with h | h
    · exact hS s h
    · rw [List.mem_singleton.mp h]; exact normP_len _ hlen
  · split
    · exact short_cat p.subs subs _ S F hS
    · split
      · exact short_alt p.subs subs _ S F hS
      · cases hs : p.subs with
        | nil => rw [starP]; exact hS
        | cons q l => rw [starP]; exact subs q (by rw [hs]; exact List.mem_cons_self) S F hS

theorem getD_short {S : Sets} (h : ShortS S) (i : Nat) : (S.getD i []).length ≤ 256 := by
  rw [List.getD_eq_getElem?_getD]
  cases hi : S[i]? with
  | none => exact Nat.zero_le _
  | some s => exact h s (List.mem_of_getElem? hi)

theorem idx_getD {α : Type} (l : List (List α)) (k : Int) (h0 : 0 ≤ k) (h1 : k < l.length) : idx l k = some (l.getD k.toNat []) := by
  obtain ⟨n, rfl⟩ : ∃ n : Nat, k = (n : Int) := ⟨k.toNat, (Int.toNat_of_nonneg h0).symm⟩
  rw [idx_nat, Int.toNat_natCast, List.getD_eq_getElem?_getD, List.getElem?_eq_getElem (by omega)]
  rfl

/- what a right pattern's positions are -/
structure Made (p : Pat) (R : Told × Sets × List (List Int)) : Prop where
  good : GoodP 0 200 R
  short : ShortS R.2.1
  lang : ∀ w, Auto R.1 R.2.1 R.2.2 w ↔ Lang p w
theorem made (p : Pat) (hr : p.right = true) (hw : p.Wf) : Made p (partP p [] []) := by
  have h1 := (Bool.and_eq_true _ _).mp hr
  have h2 := (Bool.and_eq_true _ _).mp h1.1
  have hpa : p.parts ≤ 200 := of_decide_eq_true h2.1
  have hg := partP_good p [] [] ⟨rfl, fun g hg => by cases hg⟩
  obtain ⟨g1, _⟩ := glu_part normP_in p h1.2 hw [] [] ⟨rfl, fun g hg => by cases hg⟩
  refine ⟨⟨Nat.zero_le _, ?_, hg.fol, hg.first, hg.last⟩, short_part p h1.2 [] [] (fun s hs => by cases hs), g1.lang⟩
  have : (partP p [] []).2.1.length ≤ 0 + p.parts := hg.most
  omega

def anyIn (S : Sets) (l : List Int) (n : Int) : Bool := l.any fun k => inS (S.getD k.toNat []) n
theorem anyIn_of {S : Sets} {l : List Int} {n k : Int} (h : k ∈ l) (hn : inSet (S.getD k.toNat []) n) : anyIn S l n = true := List.any_eq_true.mpr ⟨k, h, (inS_iff _ _).mpr hn⟩

structure InF (C : B0.Call) : Prop where
  in_ : ∀ s n, s.length ≤ 256 → ref01_In.C C s n = some (inS s n)
theorem inF_ok (k : Nat) (hk : 300 < k) : InF (B0.call (k + 1)) := ⟨fun s n hs => ref01_In.spec s n k (by omega) (by omega)⟩

theorem tail_last {S : Sets} {F : List (List Int)} {last : List Int} : ∀ (w : List Int) (n : Int) (k : Int), inSet (S.getD k.toNat []) n → Tail S F last w k → ∃ m, m ∈ last ∧ inSet (S.getD m.toNat []) ((n :: w).getLast (List.cons_ne_nil _ _))
  | [], n, k, h, ht => ⟨k, ht, h⟩
  | n' :: w, n, k, h, ht => by
    obtain ⟨m, h1, h2, h3⟩ := ht
    obtain ⟨q, h4, h5⟩ := tail_last w n' m h2 h3
    exact ⟨q, h4, by rw [List.getLast_cons (List.cons_ne_nil _ _)]; exact h5⟩

section
variable {C : B0.Call} (hC : InF C) (path : List Int) (S : Sets) (e : Bool) (f l : List Int) (F : List (List Int)) (hS : ShortS S)
include hC hS

theorem ends.l19 (hl : ∀ k ∈ l, 0 ≤ k ∧ k < S.length) (hll : l.length ≤ 1000) (nl : Int) (hnl : idx path (IntKind.wrap .i64 ((path.length : Int) - 1)) = some nl) : ∀ (r : List Int) (i j : Nat) (la : Bool), l.drop i = r → r.length < j → (la = true ∨ anyIn S r nl = true) →
    law08_PosEnds.l19 (law08_PosEnds.R C j) path S e f l F true la l l.length i = some true := by
  intro r
  induction r with
  | nil =>
    intro i j la hr hj hla
    obtain ⟨m, rfl, hm⟩ := succ_of hj
    have hla : la = true := hla.elim id (fun h => by cases h)
    rw [law08_PosEnds.s19, law08_PosEnds.t19, dec_ge (drop_nil' hr), cond_false, cond_true, hla]
  | cons x r ih =>
    intro i j la hr hj hla
    obtain ⟨m, rfl, hm⟩ := succ_of hj
    obtain ⟨h1, h2, h3⟩ := drop_cons' hr
    rw [List.length_cons] at hj
    have hx := hl x (List.mem_of_getElem? h2)
    rw [law08_PosEnds.s19, law08_PosEnds.t19, dec_lt h1, cond_true, idx_nat, h2, Option.bind_some, idx_getD S x hx.1 hx.2, Option.bind_some, hnl, Option.bind_some, hC.in_ _ _ (getD_short hS _), Option.bind_some, wrapS i (by omega)]
    cases la with
    | true => rw [cond_true]; exact ih (i + 1) m true h3 (by omega) (Or.inl rfl)
    | false =>
      rw [cond_false]
      refine ih (i + 1) m _ h3 (by omega) ?_
      rcases hla with h | h
      · cases h
      · have h : (inS (S.getD x.toNat []) nl || anyIn S r nl) = true := h
        rwa [Bool.or_eq_true] at h

theorem ends.l14 (hf : ∀ k ∈ f, 0 ≤ k ∧ k < S.length) (hfl : f.length ≤ 1000) (n0 : Int) (h0 : idx path 0 = some n0) (N : Nat) (hN : ∀ m, N ≤ m → law08_PosEnds.l19 (law08_PosEnds.R C m) path S e f l F true false l l.length 0 = some true) :
    ∀ (r : List Int) (i j : Nat) (fi : Bool), f.drop i = r → r.length + N < j → (fi = true ∨ anyIn S r n0 = true) → law08_PosEnds.l14 (law08_PosEnds.R C j) path S e f l F fi false f f.length i = some true := by
  intro r
  induction r with
  | nil =>
    intro i j fi hr hj hfi
    obtain ⟨m, rfl, hm⟩ := succ_of hj
    have hfi : fi = true := hfi.elim id (fun h => by cases h)
    rw [law08_PosEnds.s14, law08_PosEnds.t14, dec_ge (drop_nil' hr), cond_false, hfi]
    exact hN m (by simpa using hm)
  | cons x r ih =>
    intro i j fi hr hj hfi
    obtain ⟨m, rfl, hm⟩ := succ_of hj
    obtain ⟨h1, h2, h3⟩ := drop_cons' hr
    rw [List.length_cons] at hj
    have hx := hf x (List.mem_of_getElem? h2)
    rw [law08_PosEnds.s14, law08_PosEnds.t14, dec_lt h1, cond_true, idx_nat, h2, Option.bind_some, idx_getD S x hx.1 hx.2, Option.bind_some, h0, Option.bind_some, hC.in_ _ _ (getD_short hS _), Option.bind_some, wrapS i (by omega)]
    cases fi with
    | true => rw [cond_true]; exact ih (i + 1) m true h3 (by omega) (Or.inl rfl)
    | false =>
      rw [cond_false]
      refine ih (i + 1) m _ h3 (by omega) ?_
      rcases hfi with h | h
      · cases h
      · have h : (inS (S.getD x.toNat []) n0 || anyIn S r n0) = true := h
        rwa [Bool.or_eq_true] at h
end

theorem law08_PosEnds.spec (p : Pat) (hp : p.Lens) (hw : p.Wf) (path : List Int) (k : Nat) (hk : 4 * 2 ^ 64 + 4398046511104 + p.parts < k) (ha : law08_alive.C (B0.call k) = some true) : law08_PosEnds.C (B0.call (k + 1)) p.kind p.set p.subs path = some true := by
  obtain ⟨m, rfl⟩ : ∃ m, k = m + 2 := ⟨k - 2, by omega⟩
  rw [law08_PosEnds.s, law08_PosEnds.t, ha, Option.bind_some, Bool.not_true, cond_false, ref05_Great.spec p (m + 1) hp (by omega), Option.bind_some]
  by_cases hg : 3000 < p.parts
  · rw [decide_eq_true hg, cond_true]
  · rw [decide_eq_false hg, cond_false]
    by_cases hl : path.length > 100
    · rw [decide_eq_true (by omega), cond_true]
    · rw [decide_eq_false (by omega), cond_false]
      cases hr : p.right with
      | false =>
        rw [pos_Of.wrong p (by omega) hr (m + 1) (by omega), Option.bind_some]
        rfl
      | true =>
        have hm := made p hr hw
        have hgood := hm.good
        rw [pos_Of.right p hr (m + 1) (by omega), Option.bind_some]
        generalize partP p [] [] = R at hm hgood
        obtain ⟨b0, e0, i0⟩ := match_spec p hr [] (by decide) m (by omega)
        have eE : pat_Empty.C (B0.call (m + 2)) p.kind p.set p.subs = some b0 := by
          rw [pat_Empty.s, pat_Empty.t, e0]; rfl
        have eb : R.1.1 = b0 := by
          have h1 : R.1.1 = true ↔ b0 = true := (hm.lang []).trans i0.symm
          cases h2 : R.1.1 <;> cases h3 : b0 <;> simp_all
        have hFl := hgood.fol.1
        show (bif ((0 : Int) != 0) then _ else _) = _
        rw [show ((0 : Int) != 0) = false from rfl, cond_false, eE, Option.bind_some]
        show (bif (!(R.1.1 == b0)) then _ else _) = _
        rw [eb, show (!(b0 == b0)) = false from by cases b0 <;> rfl, cond_false]
        show (bif (((R.2.1.length : Nat) : Int) != ((R.2.2.length : Nat) : Int)) then _ else _) = _
        rw [hFl, show (((R.2.1.length : Nat) : Int) != ((R.2.1.length : Nat) : Int)) = false from by simp, cond_false]
        cases path with
        | nil => rfl
        | cons n w =>
          have en : (((n :: w).length : Int) == 0) = false := by
            rw [List.length_cons]
            exact beq_eq_false_iff_ne.mpr (by omega)
          rw [en, cond_false]
          obtain ⟨b, e1, i1⟩ := match_spec p hr (n :: w) (by omega) (m + 1) (by omega)
          rw [e1, Option.bind_some]
          cases hb : b with
          | false => rfl
          | true =>
            rw [Bool.not_true, cond_false]
            obtain ⟨q, h1, h2, h3⟩ := (hm.lang (n :: w)).mpr (i1.mp hb)
            obtain ⟨z, h4, h5⟩ := tail_last w n q h2 h3
            have l1 := hgood.first.len
            have l2 := hgood.last.len
            have hmo := hgood.most
            have hlast : idx (n :: w) (IntKind.wrap .i64 (((n :: w).length : Int) - 1)) = some ((n :: w).getLast (List.cons_ne_nil _ _)) := by
              have e5 : IntKind.wrap .i64 (((n :: w).length : Int) - 1) = (w.length : Int) := by
                rw [List.length_cons, wrap64 (by omega) (by rw [List.length_cons] at hl; omega)]; omega
              rw [e5, idx_nat, List.getLast_eq_getElem, List.getElem?_eq_getElem (by rw [List.length_cons]; omega)]
              congr 1
            exact ends.l14 (inF_ok (m + 1) (by omega)) (n :: w) R.2.1 b0 R.1.2.1 R.1.2.2 R.2.2 hm.short (fun k hk => ⟨(hgood.first.2 k hk).1, (hgood.first.2 k hk).2⟩) (by omega) n rfl 2000
              (fun m' hm' => ends.l19 (inF_ok (m + 1) (by omega)) (n :: w) R.2.1 b0 R.1.2.1 R.1.2.2 R.2.2 hm.short (fun k hk => ⟨(hgood.last.2 k hk).1, (hgood.last.2 k hk).2⟩) (by omega) _ hlast R.1.2.2 0 m' false List.drop_zero (by omega) (Or.inr (anyIn_of h4 h5)))
              R.1.2.1 0 (m + 2) false List.drop_zero (by omega) (Or.inr (anyIn_of h1 h2))

end Go.Proofs.Ytoifbdaaiejbnaa.D
/- The law PosRuns. -/
namespace Go.Proofs.Ytoifbdaaiejbnaa.D
open Go

def mayP (S : Sets) (l : List Int) (n : Int) : List Int := l.filter fun k => inS (S.getD k.toNat []) n
theorem mayP_mem (S : Sets) (l : List Int) (n k : Int) : k ∈ mayP S l n ↔ k ∈ l ∧ inS (S.getD k.toNat []) n = true := List.mem_filter
theorem mayP_good {n : Nat} {S : Sets} {l : List Int} {x : Int} (h : GoodL n l) : GoodL n (mayP S l x) :=
  ⟨List.Pairwise.filter _ h.1, fun y hy => h.2 y ((mayP_mem S l x y).mp hy).1⟩
def nextP (S : Sets) (F : List (List Int)) (n : Int) (at_ o : List Int) : List Int := at_.foldl (fun o k => withL o (mayP S (F.getD k.toNat []) n)) o
def runP (S : Sets) (F : List (List Int)) (last : List Int) : List Int → List Int → Bool
  | [], at_ => at_.any fun k => decide (k ∈ last)
  | n :: w, at_ => runP S F last w (nextP S F n at_ [])

theorem nextP_mem (S : Sets) (F : List (List Int)) (n m : Int) : ∀ (at_ o : List Int), m ∈ nextP S F n at_ o ↔ m ∈ o ∨ ∃ k, k ∈ at_ ∧ m ∈ F.getD k.toNat [] ∧ inS (S.getD m.toNat []) n = true
  | [], o => ⟨Or.inl, fun h => h.elim id (fun ⟨k, h, _⟩ => by cases h)⟩
  | q :: at_, o => by
    have ih := nextP_mem S F n m at_ (withL o (mayP S (F.getD q.toNat []) n))
    rw [show nextP S F n (q :: at_) o = nextP S F n at_ (withL o (mayP S (F.getD q.toNat []) n)) from rfl, ih, withL_mem, mayP_mem]
    constructor
    · rintro ((h | h) | ⟨k, h1, h2⟩)
      · exact Or.inl h
      · exact Or.inr ⟨q, List.mem_cons_self, h⟩
      · exact Or.inr ⟨k, List.mem_cons_of_mem _ h1, h2⟩
    · rintro (h | ⟨k, h1, h2⟩)
      · exact Or.inl (Or.inl h)
      · rcases List.mem_cons.mp h1 with rfl | h1
        · exact Or.inl (Or.inr h2)
        · exact Or.inr ⟨k, h1, h2⟩

theorem nextP_good {n : Nat} {S : Sets} {F : List (List Int)} (hF : GoodF n F) (x : Int) : ∀ (at_ o : List Int), GoodL n o → GoodL n (nextP S F x at_ o)
  | [], o, h => h
  | q :: at_, o, h => nextP_good hF x at_ _ (h.with (mayP_good (getD_good hF _)))

theorem runP_iff (S : Sets) (F : List (List Int)) (last : List Int) : ∀ (w at_ : List Int), runP S F last w at_ = true ↔ ∃ k, k ∈ at_ ∧ Tail S F last w k
  | [], at_ => by
    rw [runP, List.any_eq_true]
    exact ⟨fun ⟨k, h1, h2⟩ => ⟨k, h1, of_decide_eq_true (p := k ∈ last) h2⟩, fun ⟨k, h1, h2⟩ => ⟨k, h1, decide_eq_true (show k ∈ last from h2)⟩⟩
  | n :: w, at_ => by
    rw [runP, runP_iff S F last w]
    constructor
    · rintro ⟨m, h1, h2⟩
      rcases (nextP_mem S F n m at_ []).mp h1 with h | ⟨k, h3, h4, h5⟩
      · cases h
      · exact ⟨k, h3, m, h4, (inS_iff _ _).mp h5, h2⟩
    · rintro ⟨k, h3, m, h4, h5, h2⟩
      exact ⟨m, (nextP_mem S F n m at_ []).mpr (Or.inr ⟨k, h3, h4, (inS_iff _ _).mpr h5⟩), h2⟩

/- Pos.may -/
theorem may.loop {C : B0.Call} (hI : ∀ s n, s.length ≤ 256 → span_In.C C s n = some (inS s n)) (n : Int) (S : Sets) (e : Bool) (f l : List Int) (F : List (List Int)) (hS : ShortS S) (at_ : List Int) (hat : ∀ k ∈ at_, 0 ≤ k ∧ k < S.length) (hl : at_.length ≤ 1000) :
    ∀ (r : List Int) (i j : Nat) (o : List Int), at_.drop i = r → r.length < j → o.length + r.length ≤ 1000 → pos_Pos_may.l3 (pos_Pos_may.R C j) n S e f l F o at_ at_.length i = some (o ++ mayP S r n) := by
  intro r
  induction r with
  | nil =>
    intro i j o hr hj ho
    obtain ⟨m, rfl, hm⟩ := succ_of hj
    rw [pos_Pos_may.s3, pos_Pos_may.t3, dec_ge (drop_nil' hr), cond_false, show mayP S [] n = [] from rfl, List.append_nil]
  | cons x r ih =>
    intro i j o hr hj ho
    obtain ⟨m, rfl, hm⟩ := succ_of hj
    obtain ⟨h1, h2, h3⟩ := drop_cons' hr
    rw [List.length_cons] at hj ho
    have hx := hat x (List.mem_of_getElem? h2)
    rw [pos_Pos_may.s3, pos_Pos_may.t3, dec_lt h1, cond_true, idx_nat, h2, Option.bind_some, decide_eq_true hx.1, cond_true, decide_eq_true hx.2, cond_true, idx_getD S x hx.1 hx.2, Option.bind_some, hI _ _ (getD_short hS _), Option.bind_some, wrapS i (by omega), room_ok (by show (o.length + 1) * 8 < _; omega)]
    cases hb : inS (S.getD x.toNat []) n with
    | true =>
      rw [cond_true]
      refine (ih (i + 1) m (o ++ [x]) h3 (by omega) (by rw [List.length_append]; show o.length + 1 + _ ≤ _; omega)).trans ?_
      have e : mayP S (x :: r) n = x :: mayP S r n := by unfold mayP; rw [List.filter_cons, if_pos hb]
      rw [e, List.append_assoc]; rfl
    | false =>
      rw [cond_false]
      refine (ih (i + 1) m o h3 (by omega) (by omega)).trans ?_
      have e : mayP S (x :: r) n = mayP S r n := by unfold mayP; rw [List.filter_cons, if_neg (by rw [hb]; exact Bool.false_ne_true)]
      rw [e]
theorem may.spec (k : Nat) (hk : 3000 < k) (n : Int) (S : Sets) (e : Bool) (f l : List Int) (F : List (List Int)) (hS : ShortS S) (at_ : List Int) (hat : ∀ k ∈ at_, 0 ≤ k ∧ k < S.length) (hl : at_.length ≤ 1000) :
    pos_Pos_may.C (B0.call (k + 1)) S e f l F at_ n = some (mayP S at_ n) := by
  obtain ⟨m, rfl⟩ : ∃ m, k = m + 1 := ⟨k - 1, by omega⟩
  rw [pos_Pos_may.s, pos_Pos_may.t]
  exact may.loop (fun s n hs => span_In.spec s n m (by omega) (by omega)) n S e f l F hS at_ hat hl at_ 0 (m + 1) [] List.drop_zero (by omega) (by show 0 + _ ≤ _; omega)

/- whether a position is one of the last -/
theorem index.loop (C : B0.Call) (l : List Int) (v : Int) (hl : l.length < 9223372036854775807) : ∀ (r : List Int) (i j : Nat), l.drop i = r → r.length < j → ∃ q : Int, slices_Index_int_int.l2 (slices_Index_int_int.R C j) l v l.length i = some q ∧ decide (q ≥ 0) = decide (v ∈ r) := by
  intro r
  induction r with
  | nil =>
    intro i j hr hj
    obtain ⟨m, rfl, hm⟩ := succ_of hj
    rw [slices_Index_int_int.s2, slices_Index_int_int.t2, dec_ge (drop_nil' hr), cond_false]
    exact ⟨-1, rfl, by simp⟩
  | cons x r ih =>
    intro i j hr hj
    obtain ⟨m, rfl, hm⟩ := succ_of hj
    obtain ⟨h1, h2, h3⟩ := drop_cons' hr
    rw [List.length_cons] at hj
    rw [slices_Index_int_int.s2, slices_Index_int_int.t2, dec_lt h1, cond_true, idx_nat, h2, Option.bind_some, wrapS i (by omega)]
    by_cases e : v = x
    · subst e
      rw [show (v == v) = true from by simp, cond_true]
      refine ⟨(i : Int), rfl, ?_⟩
      rw [decide_eq_true (by omega), decide_eq_true List.mem_cons_self]
    · rw [show (v == x) = false from by simp [e], cond_false]
      obtain ⟨q, e1, e2⟩ := ih (i + 1) m h3 (by omega)
      refine ⟨q, e1, e2.trans ?_⟩
      by_cases hv : v ∈ r
      · rw [decide_eq_true hv, decide_eq_true (List.mem_cons_of_mem _ hv)]
      · rw [decide_eq_false hv, decide_eq_false (fun h => (List.mem_cons.mp h).elim e hv)]
theorem contains.spec (l : List Int) (v : Int) (k : Nat) (hl : l.length < 9223372036854775807) (hk : l.length < k) : slices_Contains_int_int.C (B0.call (k + 2)) l v = some (decide (v ∈ l)) := by
  rw [slices_Contains_int_int.s, slices_Contains_int_int.t, slices_Index_int_int.s, slices_Index_int_int.t]
  obtain ⟨q, e1, e2⟩ := index.loop (B0.call k) l v hl l 0 k List.drop_zero hk
  have e1 : slices_Index_int_int.l2 (slices_Index_int_int.R (B0.call k) k) l v (l.length : Int) 0 = some q := e1
  rw [e1, Option.bind_some, e2]

theorem anyLast.loop {C : B0.Call} (S : Sets) (e : Bool) (f l : List Int) (F : List (List Int)) (hC : ∀ k, pos_Run_c1.C C k S e f l F = some (decide (k ∈ l), S, e, f, l, F)) (at_ : List Int) (hl : at_.length < 9223372036854775807) :
    ∀ (r : List Int) (i j : Nat), at_.drop i = r → r.length < j → ∃ q : Int, slices_IndexFunc_int_int.l2 (slices_IndexFunc_int_int.R C j) at_ at_.length i S e f l F = some (q, S, e, f, l, F) ∧ decide (q ≥ 0) = r.any fun k => decide (k ∈ l) := by
  intro r
  induction r with
  | nil =>
    intro i j hr hj
    obtain ⟨m, rfl, hm⟩ := succ_of hj
    rw [slices_IndexFunc_int_int.s2, slices_IndexFunc_int_int.t2, dec_ge (drop_nil' hr), cond_false]
    exact ⟨-1, rfl, rfl⟩
  | cons x r ih =>
    intro i j hr hj
    obtain ⟨m, rfl, hm⟩ := succ_of hj
    obtain ⟨h1, h2, h3⟩ := drop_cons' hr
    rw [List.length_cons] at hj
    rw [slices_IndexFunc_int_int.s2, slices_IndexFunc_int_int.t2, dec_lt h1, cond_true, idx_nat, h2, Option.bind_some, hC, Option.bind_some, wrapS i (by omega)]
    rw [List.any_cons]
    cases hb : decide (x ∈ l) with
    | true => exact ⟨(i : Int), rfl, decide_eq_true (by omega)⟩
    | false => exact ih (i + 1) m h3 (by omega)
theorem anyLast.spec (k : Nat) (hk : 3000 < k) (S : Sets) (e : Bool) (f l : List Int) (F : List (List Int)) (hl : l.length ≤ 1000) (at_ : List Int) (ha : at_.length ≤ 1000) :
    slices_ContainsFunc_int_int.C (B0.call (k + 5)) at_ S e f l F = some ((at_.any fun k => decide (k ∈ l)), S, e, f, l, F) := by
  rw [slices_ContainsFunc_int_int.s, slices_ContainsFunc_int_int.t, slices_IndexFunc_int_int.s, slices_IndexFunc_int_int.t]
  obtain ⟨q, e1, e2⟩ := anyLast.loop (C := B0.call (k + 3)) S e f l F (fun v => by rw [pos_Run_c1.s, pos_Run_c1.t, contains.spec l v k (by omega) (by omega)]; rfl) at_ (by omega) at_ 0 (k + 3) List.drop_zero (by omega)
  have e1 : slices_IndexFunc_int_int.l2 (slices_IndexFunc_int_int.R (B0.call (k + 3)) (k + 3)) at_ (at_.length : Int) 0 S e f l F = some (q, S, e, f, l, F) := e1
  rw [e1, Option.bind_some, e2]

structure RunF (C : B0.Call) (S : Sets) (e : Bool) (f l : List Int) (F : List (List Int)) : Prop where
  may : ∀ (n : Int) (at_ : List Int), (∀ k ∈ at_, 0 ≤ k ∧ k < S.length) → at_.length ≤ 1000 → pos_Pos_may.C C S e f l F at_ n = some (mayP S at_ n)
  with_ : ∀ (o more : List Int), o.length ≤ 1000 → more.length ≤ 1000 → Rise o → pos_with.C C o more = some (withL o more)
  any : ∀ (at_ : List Int), at_.length ≤ 1000 → slices_ContainsFunc_int_int.C C at_ S e f l F = some ((at_.any fun k => decide (k ∈ l)), S, e, f, l, F)

section
variable {C : B0.Call} {S : Sets} {e : Bool} {f l : List Int} {F : List (List Int)} (hC : RunF C S e f l F) (hF : GoodF S.length F) (hn : S.length ≤ 200)
include hC hF hn

theorem run.l9 (n : Int) (p : List Int) (ti : Nat) (hti : ti < 1000) (at_ : List Int) (hat : GoodL S.length at_) (Y : Bool) (N : Nat)
    (hN : ∀ m, N ≤ m → pos_Run.l5 (pos_Run.R C m) S e f l F (nextP S F n at_ []) p p.length ((ti + 1 : Nat) : Int) = some Y) :
    ∀ (r : List Int) (i j : Nat) (o : List Int), at_.drop i = r → r.length + N < j → GoodL S.length o → nextP S F n r o = nextP S F n at_ [] → pos_Run.l9 (pos_Run.R C j) S e f l F n o p p.length ti at_ at_.length i = some Y := by
  intro r
  have hal := hat.len
  induction r with
  | nil =>
    intro i j o hr hj ho he
    obtain ⟨m, rfl, hm⟩ := succ_of hj
    rw [pos_Run.s9, pos_Run.t9, dec_ge (drop_nil' hr), cond_false, wrapS ti (by omega)]
    have he : o = nextP S F n at_ [] := he
    rw [he]
    exact hN m (by simpa using hm)
  | cons x r ih =>
    intro i j o hr hj ho he
    obtain ⟨m, rfl, hm⟩ := succ_of hj
    obtain ⟨h1, h2, h3⟩ := drop_cons' hr
    rw [List.length_cons] at hj
    have hx := hat.2 x (List.mem_of_getElem? h2)
    have hg := getD_good hF x.toNat
    have hgl := hg.len
    have hm1 := mayP_good (S := S) (x := n) hg
    have hml := hm1.len
    have hol := ho.len
    rw [pos_Run.s9, pos_Run.t9, dec_lt h1, cond_true, idx_nat, h2, Option.bind_some, decide_eq_true (by rw [hF.1]; exact hx.2), cond_true, idx_getD F x hx.1 (by rw [hF.1]; exact hx.2), Option.bind_some, hC.may n _ hg.2 (by omega), Option.bind_some, hC.with_ o _ (by omega) (by omega) ho.1, Option.bind_some, wrapS i (by omega)]
    exact ih (i + 1) m (withL o (mayP S (F.getD x.toNat []) n)) h3 (by omega) (ho.with hm1) he

theorem run.l5 (p : List Int) (hp : p.length ≤ 300) : ∀ (r : List Int) (i j : Nat) (at_ : List Int), p.drop i = r → r.length * 1000 < j → GoodL S.length at_ → pos_Run.l5 (pos_Run.R C j) S e f l F at_ p p.length i = some (runP S F l r at_) := by
  intro r
  induction r with
  | nil =>
    intro i j at_ hr hj hat
    rw [List.length_nil, Nat.zero_mul] at hj
    obtain ⟨m, rfl, hm⟩ := succ_of hj
    have := hat.len
    rw [pos_Run.s5, pos_Run.t5, dec_ge (drop_nil' hr), cond_false, hC.any at_ (by omega), Option.bind_some, runP]
  | cons n r ih =>
    intro i j at_ hr hj hat
    rw [List.length_cons, Nat.succ_mul] at hj
    obtain ⟨m, rfl, hm⟩ := succ_of (Nat.lt_of_le_of_lt (Nat.zero_le _) hj)
    obtain ⟨h1, h2, h3⟩ := drop_cons' hr
    have hal := hat.len
    generalize hK : r.length * 1000 = K at hj ih
    rw [pos_Run.s5, pos_Run.t5, dec_lt h1, cond_true, idx_nat, h2, Option.bind_some, runP]
    exact run.l9 hC hF hn n p i (by omega) at_ hat _ (K + 1) (fun m' hm' => ih (i + 1) m' _ h3 (by omega) (nextP_good hF n at_ [] (GoodL.nil _))) at_ 0 m [] List.drop_zero (by omega) (GoodL.nil _) rfl
end

theorem run_spec {p : Pat} {R : Told × Sets × List (List Int)} (hm : Made p R) (path : List Int) (hp : path.length ≤ 255) (k : Nat) (hk : 1099511627776 + 400000 < k) :
    ∃ b, pos_Run.C (B0.call (k + 6)) R.2.1 R.1.1 R.1.2.1 R.1.2.2 R.2.2 path = some b ∧ (b = true ↔ Lang p path) := by
  have hgood := hm.good
  have hmo := hgood.most
  have l1 := hgood.first.len
  have l2 := hgood.last.len
  rw [pos_Run.s, pos_Run.t]
  cases path with
  | nil => exact ⟨R.1.1, rfl, hm.lang []⟩
  | cons n w =>
    have en : (((n :: w).length : Int) == 0) = false := by
      rw [List.length_cons]
      exact beq_eq_false_iff_ne.mpr (by omega)
    have hF : RunF (B0.call (k + 5)) R.2.1 R.1.1 R.1.2.1 R.1.2.2 R.2.2 := {
      may := fun n at_ h1 h2 => may.spec (k + 4) (by omega) n _ _ _ _ _ hm.short at_ h1 h2
      with_ := fun o more h1 h2 h3 => pos_with.spec o more (k + 4) (by omega) (by omega) (by omega) h3
      any := fun at_ h => anyLast.spec k (by omega) _ _ _ _ _ (by omega) at_ h }
    have e0 : idx (n :: w) 0 = some n := rfl
    have hlen : (n :: w).length = w.length + 1 := List.length_cons
    have e2 : List.drop (Int.toNat 1) (List.take (Int.toNat (((n :: w).length : Nat) : Int)) (n :: w)) = w := by
      rw [Int.toNat_natCast, List.take_length]; rfl
    have e3 : (((decide (0 ≤ 1)) && (decide ((1 : Int) ≤ (((n :: w).length : Nat) : Int)))) && (decide ((((n :: w).length : Nat) : Int) ≤ (((n :: w).length : Nat) : Int)))) = true := by
      rw [decide_eq_true (show 0 ≤ 1 by decide), decide_eq_true (show (1 : Int) ≤ (((n :: w).length : Nat) : Int) by omega), decide_eq_true (Int.le_refl _)]; rfl
    rw [en, cond_false, e0, Option.bind_some, hF.may n R.1.2.1 hgood.first.2 (by omega), Option.bind_some, e3, cond_true, e2]
    refine ⟨_, run.l5 hF hgood.fol (by omega) w (by omega) w 0 (k + 5) _ List.drop_zero (by have := Nat.mul_le_mul_right 1000 (show w.length ≤ 255 by omega); omega) (mayP_good hgood.first), ?_⟩
    rw [runP_iff, ← hm.lang]
    constructor
    · rintro ⟨q, h1, h2⟩
      obtain ⟨h3, h4⟩ := (mayP_mem _ _ _ _).mp h1
      exact ⟨q, h3, (inS_iff _ _).mp h4, h2⟩
    · rintro ⟨q, h1, h2, h3⟩
      exact ⟨q, (mayP_mem _ _ _ _).mpr ⟨h1, (inS_iff _ _).mpr h2⟩, h3⟩

theorem ref01_Nums.loop (C : B0.Call) (a : List Int) (hl : a.length < 9223372036854775807) : ∀ (r : List Int) (i j : Nat), a.drop i = r → r.length < j → ref01_Nums.l4 (ref01_Nums.R C j) a a a.length i = some true := by
  intro r
  induction r with
  | nil =>
    intro i j hr hj
    obtain ⟨m, rfl, hm⟩ := succ_of hj
    rw [ref01_Nums.s4, ref01_Nums.t4, dec_ge (drop_nil' hr), cond_false]
  | cons x r ih =>
    intro i j hr hj
    obtain ⟨m, rfl, hm⟩ := succ_of hj
    obtain ⟨h1, h2, h3⟩ := drop_cons' hr
    rw [List.length_cons] at hj
    rw [ref01_Nums.s4, ref01_Nums.t4, dec_lt h1, cond_true, idx_nat, h2, Option.bind_some, Option.bind_some, wrapS i (by omega), show (x != x) = false from by simp, cond_false]
    exact ih (i + 1) m h3 (by omega)
theorem ref01_Nums.refl (k : Nat) (a : List Int) (hl : a.length < 9223372036854775807) (hk : a.length < k) : ref01_Nums.C (B0.call (k + 1)) a a = some true := by
  rw [ref01_Nums.s, ref01_Nums.t, show (((List.length a) : Int) != ((List.length a) : Int)) = false from by simp, cond_false]
  exact ref01_Nums.loop (B0.call k) a hl a 0 k List.drop_zero hk

theorem law08_PosRuns.spec (p : Pat) (hp : p.Lens) (hw : p.Wf) (path : List Int) (k : Nat) (hk : 4 * 2 ^ 64 + 4398046511104 + p.parts < k) (ha : law08_alive.C (B0.call k) = some true) : law08_PosRuns.C (B0.call (k + 1)) p.kind p.set p.subs path = some true := by
  obtain ⟨m, rfl⟩ : ∃ m, k = m + 6 := ⟨k - 6, by omega⟩
  rw [law08_PosRuns.s, law08_PosRuns.t, ha, Option.bind_some, Bool.not_true, cond_false, ref05_Great.spec p (m + 5) hp (by omega), Option.bind_some]
  by_cases hg : 3000 < p.parts
  · rw [decide_eq_true hg, cond_true]
  · rw [decide_eq_false hg, cond_false]
    by_cases hl : path.length > 255
    · rw [decide_eq_true (by omega), cond_true]
    · rw [decide_eq_false (by omega), cond_false]
      cases hr : p.right with
      | false =>
        rw [pos_Of.wrong p (by omega) hr (m + 5) (by omega), Option.bind_some]
        show (bif ((4 : Int) != 0) then _ else _) = _
        rw [show ((4 : Int) != 0) = true from rfl, cond_true, pat_Right.specP p (m + 6) (by omega) (by omega), hr]
        rfl
      | true =>
        have hm := made p hr hw
        rw [pos_Of.right p hr (m + 5) (by omega), Option.bind_some]
        generalize partP p [] [] = R at hm
        obtain ⟨b, e1, i1⟩ := run_spec hm path (by omega) m (by omega)
        obtain ⟨b2, e2, i2⟩ := match_spec p hr path (by omega) (m + 5) (by omega)
        have eb : b = b2 := by
          have h := i1.trans i2.symm
          cases b <;> cases b2 <;> simp_all
        show (bif ((0 : Int) != 0) then _ else _) = _
        rw [show ((0 : Int) != 0) = false from rfl, cond_false, room_ok (by omega)]
        dsimp only
        rw [show (true && (((true && true) && true) && true)) = true from rfl, cond_true, List.nil_append, e1, Option.bind_some, e2, Option.bind_some, eb, show (b2 == b2) = true from by cases b2 <;> rfl, cond_true, ref01_Nums.refl (m + 5) path (by omega) (by omega), Option.bind_some]

end Go.Proofs.Ytoifbdaaiejbnaa.D
/- slices.Insert at int: what it makes of two slices of one's own. -/
namespace Go.Proofs.Ytoifbdaaiejbnaa.D
open Go Go.RowKit Go.Shelf

def lay_Insert_int_ren : Go.Shelf.Ren := ⟨fun | 21 => 51 | 27 => 64 | 28 => 65 | 35 => 73 | 39 => 86 | n => n, fun | 22 => 30 | 3 => 3 | 4 => 4 | 0 => 0 | n => n, fun n => n⟩
theorem lay_Insert_int : Lays2.n21 Try.prog lay_Insert_int_ren := {
  mixed := by kernel_rfl,
  f21 := Try.func51.trans (congrArg some (by kernel_rfl)),
  f27 := Try.func64.trans (congrArg some (by kernel_rfl)),
  f28 := Try.func65.trans (congrArg some (by kernel_rfl)),
  f35 := Try.func73.trans (congrArg some (by kernel_rfl)),
  f39 := Try.func86.trans (congrArg some (by kernel_rfl)),
  t0 := Try.underlying0,
  a0 := Try.isAgg0,
  z0 := Try.sizeOf0,
  v0 := Try.zeroValue0,
  t3 := Try.underlying3,
  a3 := Try.isAgg3,
  z3 := Try.sizeOf3,
  v3 := Try.zeroValue3,
  t4 := Try.underlying4,
  a4 := Try.isAgg4,
  z4 := Try.sizeOf4,
  v4 := Try.zeroValue4,
  t22 := Try.underlying30,
  a22 := Try.isAgg30,
  z22 := Try.sizeOf30,
  v22 := Try.zeroValue30,
  i3 := by kernel_rfl }


/- a block some of whose cells are told anew -/
def putL : Nat → List Value → Array Value → Array Value
  | _, [], c => c
  | o, v :: r, c => putL (o + 1) r (c.setIfInBounds o v)

theorem putL_size : ∀ (vs : List Value) (o : Nat) (c : Array Value), (putL o vs c).size = c.size
  | [], _, _ => rfl
  | v :: r, o, c => by rw [putL, putL_size r]; simp

theorem putL_list : ∀ (vs : List Value) (o : Nat) (c : Array Value), o + vs.length ≤ c.size → (putL o vs c).toList = c.toList.take o ++ vs ++ c.toList.drop (o + vs.length)
  | [], o, c, _ => by simp [putL]
  | v :: r, o, c, h => by
    have h : o + (r.length + 1) ≤ c.size := h
    rw [putL, putL_list r (o + 1) _ (by simp; omega)]
    have h1 : o < c.toList.length := by simp; omega
    rw [Array.toList_setIfInBounds, List.take_set, List.drop_set_of_lt (by omega), List.take_succ_eq_append_getElem h1, List.set_append_right _ _ (by rw [List.length_take]; omega)]
    have h2 : o - (c.toList.take o).length = 0 := by rw [List.length_take]; omega
    rw [h2]
    simp [Nat.add_assoc, Nat.add_comm 1]

theorem setCells_heap (b : Nat) : ∀ (vs : List Value) (o : Nat) (w : World), (∀ cur e, w.heap[b]? = some (.cells cur e (0, 0)) → (w.setCells b o vs).heap[b]? = some (.cells (putL o vs cur) e (0, 0))) ∧
    (∀ k, k ≠ b → (w.setCells b o vs).heap[k]? = w.heap[k]?) ∧ (w.setCells b o vs).heap.size = w.heap.size ∧ (w.setCells b o vs).os = w.os ∧ (w.setCells b o vs).tape = w.tape ∧ (w.setCells b o vs).output = w.output
  | [], o, w => ⟨fun _ _ h => h, fun _ _ => rfl, rfl, rfl, rfl, rfl⟩
  | v :: r, o, w => by
    obtain ⟨h1, h2, h3, h4, h5, h6⟩ := setCells_heap b r (o + 1) (w.setCell ⟨b, o, none⟩ v)
    rw [World.setCells]
    refine ⟨fun cur e h => h1 _ e ?_, fun k hk => (h2 k hk).trans ?_, h3.trans ?_, h4, h5, h6⟩
    · unfold World.setCell
      rw [Array.getElem?_modify, if_pos rfl, h]
      rfl
    · unfold World.setCell
      rw [Array.getElem?_modify, if_neg (fun e => hk e.symm)]
    · unfold World.setCell
      simp

theorem row_cells {w : World} {g cap n : Nat} {cur : Array Value} {e : TypeId} (hb : w.heap[g]? = some (.cells cur e (0, 0))) {cs : List Value} (ht : cur.toList.take n = cs) : ∀ j v, cs[j]? = some v → w.cell? ⟨g, 0 + j, none⟩ = some v := by
  intro j v hj
  rw [Nat.zero_add, cell_of_block hb]
  rw [← ht] at hj
  rw [← Array.getElem?_toList]
  rw [List.getElem?_take] at hj
  split at hj
  · exact hj
  · cases hj

theorem grew (w : World) (o : Obj) : (w.alloc o).drew.heap[w.heap.size]? = some o ∧ (∀ g, g < w.heap.size → (w.alloc o).drew.heap[g]? = w.heap[g]?) ∧ (w.alloc o).drew.heap.size = w.heap.size + 1 :=
  ⟨heap_alloc_new w o, fun g hg => heap_alloc_old w o hg, by show (w.alloc o).heap.size = _; simp⟩
theorem grew2 (w : World) (o : Obj) : (w.drew.alloc o).heap[w.heap.size]? = some o ∧ (∀ g, g < w.heap.size → (w.drew.alloc o).heap[g]? = w.heap[g]?) ∧ (w.drew.alloc o).heap.size = w.heap.size + 1 := grew w o

def InsOut (w : World) (v0 : Value) (r : List Value) (e : Ending) (w' : World) : Prop :=
  ∃ v', e = .returned v' ∧ w'.ownsRow 0 3 1 v' r.length r ∧ Step w w' (fun g => v0.ownBlock = some g) ∧ (v'.ownBlock = v0.ownBlock ∨ ∃ g, v'.ownBlock = some g ∧ w.heap.size ≤ g)

theorem insert_calls (w : World) (v0 v1 : Value) (cs vs : List Value) (i : Nat) (h0 : w.ownsRow 0 3 1 v0 cs.length cs) (h1 : w.ownsRow 0 3 1 v1 vs.length vs) (hne : ∀ g, v0.ownBlock = some g → v1.ownBlock ≠ some g)
    (hi : i ≤ cs.length) (hm : 0 < vs.length) (hbig : (cs.length + vs.length) * 8 ≤ 140737488355328) (hc : ∀ v ∈ cs, v.oneCell' = true) (hv : ∀ v ∈ vs, v.oneCell' = true) :
    Calls Try.prog 51 #[v0, .int .i64 i, v1] w (InsOut w v0 (cs.take i ++ vs ++ cs.drop i)) := by
  obtain ⟨-, h1 | ⟨vb, vc, vcur, rfl, -, hvb, hvn, hvm, hvs, hvt⟩⟩ := h1
  · omega
  rw [Nat.mul_one] at hvs hvt
  have cv := row_cells (cap := vc) hvb hvt
  have hvlt : vb < w.heap.size := (Array.getElem?_eq_some_iff.1 hvb).1
  have hrl : (cs.take i ++ vs ++ cs.drop i).length = cs.length + vs.length := by simp; omega
  have grown : ∀ (w' : World) (W : List Value) (c : Nat), W.length = cs.length + vs.length → cs.length + vs.length ≤ c → c ≤ maxLen → ∀ (cur : Array Value), cur.size = c → cur.toList.take (cs.length + vs.length) = W →
      w'.heap[w.heap.size]? = some (.cells cur 3 (0, 0)) → w'.ownsRow 0 3 1 (.slice (some ⟨w.heap.size, 0, none⟩) (cs.length + vs.length) c) W.length W := by
    intro w' W c hW hn hm cur hs ht hb
    refine ⟨by rw [Nat.mul_one], .inr ⟨w.heap.size, c, cur, by rw [hW], Nat.zero_le _, hb, by rw [hW]; exact hn, hm, by rw [Nat.mul_one]; exact hs, by rw [hW, Nat.mul_one]; exact ht⟩⟩
  obtain ⟨-, ⟨rfl, hn⟩ | ⟨b, c, cur, rfl, -, hb, hnc, hcm, hcs, hct⟩⟩ := h0
  · have hcs0 : cs = [] := List.eq_nil_of_length_eq_zero hn
    subst hcs0
    have hi0 : i = 0 := by simpa using hi
    subst hi0
    have hcon := Any2.slices_Insert_int_end_grow lay_Insert_int none 0 0 vb 0 vs.length vc [] vs w hm (Nat.le_refl _) (by omega) (by simpa using hbig) rfl rfl (fun _ => rfl) (fun a h => by cases h) cv hv
    rw [show lay_Insert_int_ren.t 3 = 3 from rfl] at hcon
    refine (show Calls Try.prog 51 _ _ _ from hcon).mono ?_
    rintro e w' ⟨rfl, rfl⟩
    have hg := grownCap_ge w (0 + vs.length) 0 3
    have hgm := grownCap_le_maxLen w (0 + vs.length) 0 3 (by unfold maxLen; simp at hbig; omega)
    refine ⟨_, rfl, ?_, ?_, .inr ⟨w.heap.size, rfl, Nat.le_refl _⟩⟩
    · refine grown _ _ _ hrl (by simpa using hg) hgm _ ?_ ?_ (grew2 _ _).1
      · simp [Builtin.zeroCells, Value.cells]; simp at hg; omega
      · simp
    · exact ⟨Nat.le_of_lt (by rw [(grew2 _ _).2.2]; exact Nat.lt_succ_self _), fun g hg' _ => (grew2 _ _).2.1 g hg', rfl, rfl, rfl⟩
  · rw [Nat.mul_one] at hcs hct
    have cc := row_cells (cap := c) hb hct
    have hblt : b < w.heap.size := (Array.getElem?_eq_some_iff.1 hb).1
    have hvb' : vb ≠ b := fun e => hne b rfl (by rw [e]; rfl)
    have hsp : ∀ j, j < c → (w.cell? ⟨b, 0 + j, none⟩).isSome = true := fun j hj => by
      rw [Nat.zero_add, cell_of_block hb, Array.getElem?_eq_getElem (by omega)]; rfl
    have hfz : ∀ j, w.frozen? ⟨b, j, none⟩ = false := fun j => by simp [World.frozen?, hb]
    have hfv : ∀ j, w.frozen? ⟨vb, j, none⟩ = false := fun j => by simp [World.frozen?, hvb]
    have hc63 : c ≤ 9223372036854775807 := by unfold maxLen at hcm; omega
    have inplace : ∀ (w' : World) (cur' : Array Value), cur'.size = c → cs.length + vs.length ≤ c → cur'.toList.take (cs.length + vs.length) = cs.take i ++ vs ++ cs.drop i → w'.heap[b]? = some (.cells cur' 3 (0, 0)) →
        (∀ k, k ≠ b → w'.heap[k]? = w.heap[k]?) → w'.heap.size = w.heap.size → w'.os = w.os → w'.tape = w.tape → w'.output = w.output →
        InsOut w (.slice (some ⟨b, 0, none⟩) cs.length c) (cs.take i ++ vs ++ cs.drop i) (.returned (.slice (some ⟨b, 0, none⟩) (cs.length + vs.length) c)) w' := by
      intro w' cur' h1 h2 h3 h4 h5 h6 h7 h8 h9
      refine ⟨_, rfl, ?_, ⟨by omega, fun g hg hn => h5 g (fun e => hn (by rw [e]; rfl)), h7, h8, h9⟩, .inl rfl⟩
      rw [hrl]
      exact ⟨by rw [Nat.mul_one, hrl], .inr ⟨b, c, cur', rfl, Nat.zero_le _, h4, h2, hcm, by rw [Nat.mul_one]; exact h1, by rw [Nat.mul_one]; exact h3⟩⟩
    by_cases hroom : cs.length + vs.length ≤ c
    · by_cases hend : i = cs.length
      · subst hend
        have hcon := Any2.slices_Insert_int_end_room lay_Insert_int b 0 cs.length c vb 0 vs.length vc vs w hm hroom hc63 rfl (fun j hj => by rw [Nat.add_assoc]; exact hsp _ (by omega)) (fun j hj => hfz _) cv hv
        refine (show Calls Try.prog 51 _ _ _ from hcon).mono ?_
        rintro e w' ⟨rfl, rfl⟩
        obtain ⟨k1, k2, k3, k4, k5, k6⟩ := setCells_heap b vs (0 + cs.length) w
        refine inplace _ _ ?_ hroom ?_ (k1 _ _ hb) k2 k3 k4 k5 k6
        · rw [putL_size]; exact hcs
        · rw [putL_list _ _ _ (by omega), Nat.zero_add, hct, List.take_append_of_le_length (by rw [List.length_append]; exact Nat.le_refl _), List.take_of_length_le (by rw [List.length_append]; exact Nat.le_refl _), List.take_length, List.drop_length, List.append_nil]
      · have hi' : i < cs.length := by omega
        have hcon := Any2.slices_Insert_int_shift lay_Insert_int b 0 cs.length c i vb 0 vs.length vc cs vs w hi' hm hroom hc63 hvb' rfl rfl cc (fun j hj => hsp j (by omega)) (fun j _ => hfz _) cv hc hv
          3 3 vcur.size cur.size (by simp [World.shape?, hvb]) (by simp [World.shape?, hb]) (by omega) (hfv _) (hfv _)
        refine (show Calls Try.prog 51 _ _ _ from hcon).mono ?_
        rintro e w' ⟨rfl, rfl⟩
        obtain ⟨k1, k2, k3, k4, k5, k6⟩ := setCells_heap b (cs.drop i) (0 + (i + vs.length)) w.drew
        obtain ⟨j1, j2, j3, j4, j5, j6⟩ := setCells_heap b vs (0 + i) (w.drew.setCells b (0 + (i + vs.length)) (cs.drop i))
        have hdl : (cs.drop i).length = cs.length - i := List.length_drop
        refine inplace _ _ ?_ hroom ?_ (j1 _ _ (k1 _ _ hb)) (fun k hk => (j2 k hk).trans (k2 k hk)) (j3.trans k3) (j4.trans k4) (j5.trans k5) (j6.trans k6)
        · rw [putL_size, putL_size]; exact hcs
        · rw [putL_list _ _ _ (by rw [putL_size]; omega), putL_list _ _ _ (by rw [hdl]; omega)]
          rw [Nat.zero_add, Nat.zero_add]
          have e0 : cur.toList.length = c := hcs
          have e1 : (cur.toList.take (i + vs.length)).length = i + vs.length := by rw [List.length_take, e0]; omega
          have e2 : (List.take (i + vs.length) cur.toList ++ List.drop i cs ++ List.drop (i + vs.length + (List.drop i cs).length) cur.toList).take i = cs.take i := by
            rw [List.append_assoc, List.take_append_of_le_length (by omega), List.take_take, Nat.min_eq_left (by omega), ← hct, List.take_take, Nat.min_eq_left (by omega)]
          have e3 : (List.take (i + vs.length) cur.toList ++ List.drop i cs ++ List.drop (i + vs.length + (List.drop i cs).length) cur.toList).drop (i + vs.length) = List.drop i cs ++ List.drop (i + vs.length + (List.drop i cs).length) cur.toList := by
            rw [List.append_assoc, List.drop_append, List.drop_eq_nil_of_le (by omega), e1, Nat.sub_self, List.drop_zero, List.nil_append]
          rw [e2, e3, ← List.append_assoc, List.take_append_of_le_length (by rw [hrl]; omega), List.take_of_length_le (by rw [hrl]; omega)]
    · by_cases hend : i = cs.length
      · subst hend
        have hcon := Any2.slices_Insert_int_end_grow lay_Insert_int (some ⟨b, 0, none⟩) cs.length c vb 0 vs.length vc cs vs w hm hnc (by omega) hbig rfl rfl (fun h => by cases h) (fun a h j v hj => by cases h; rw [Addr.add_lit]; exact cc j v hj) cv hv
        rw [show lay_Insert_int_ren.t 3 = 3 from rfl] at hcon
        refine (show Calls Try.prog 51 _ _ _ from hcon).mono ?_
        rintro e w' ⟨rfl, rfl⟩
        have hg := grownCap_ge w (cs.length + vs.length) c 3
        have hgm := grownCap_le_maxLen w (cs.length + vs.length) c 3 (by unfold maxLen; omega)
        refine ⟨_, rfl, ?_, ?_, .inr ⟨w.heap.size, rfl, Nat.le_refl _⟩⟩
        · rw [hrl]
          have := grown (w.drew.alloc (.cells ((cs ++ vs).toArray ++ Builtin.zeroCells (Value.int .i64 0).cells (grownCap w (cs.length + vs.length) c 3 - (cs.length + vs.length))) 3)) (cs.take cs.length ++ vs ++ cs.drop cs.length) _ hrl hg hgm _ ?_ ?_ (grew2 _ _).1
          · rwa [hrl] at this
          · simp [Builtin.zeroCells, Value.cells]; omega
          · have e5 : cs.take cs.length ++ vs ++ cs.drop cs.length = cs ++ vs := by rw [List.take_length, List.drop_length, List.append_nil]
            rw [e5, Array.toList_append, List.take_append_of_le_length (by simp), List.take_of_length_le (by simp)]
        · exact ⟨Nat.le_of_lt (by rw [(grew2 _ _).2.2]; exact Nat.lt_succ_self _), fun g hg' _ => (grew2 _ _).2.1 g hg', rfl, rfl, rfl⟩
      · have hi' : i < cs.length := by omega
        have hcon := Any2.slices_Insert_int_grow lay_Insert_int b 0 cs.length c i vb 0 vs.length vc cs vs w hi' hm hnc (by omega) hbig rfl rfl cc cv hc hv
        rw [show lay_Insert_int_ren.t 3 = 3 from rfl] at hcon
        refine (show Calls Try.prog 51 _ _ _ from hcon).mono ?_
        rintro e w' ⟨rfl, rfl⟩
        have hg := grownCap_ge w (cs.length + vs.length) c 3
        have hgm := grownCap_le_maxLen w (cs.length + vs.length) c 3 (by unfold maxLen; omega)
        generalize hG : grownCap w (cs.length + vs.length) c 3 = G at hg hgm ⊢
        generalize hrow : (cs.take i).toArray ++ Builtin.zeroCells (Value.int .i64 0).cells (cs.length + vs.length - i) ++ Builtin.zeroCells (Value.int .i64 0).cells (G - (cs.length + vs.length)) = row
        have hrs : row.size = G := by rw [← hrow]; simp [Builtin.zeroCells, Value.cells]; omega
        have hrt : row.toList.take i = cs.take i := by rw [← hrow]; simp; rw [List.take_append_of_le_length (by simp; omega), List.take_take, Nat.min_self]
        have hdl : (cs.drop i).length = cs.length - i := List.length_drop
        generalize hw1 : (w.alloc (.cells row 3)).drew = w1
        have hw1b : w1.heap[w.heap.size]? = some (.cells row 3 (0, 0)) := by rw [← hw1]; exact (grew _ _).1
        have hw1o : ∀ g, g < w.heap.size → w1.heap[g]? = w.heap[g]? := fun g hg' => by rw [← hw1]; exact (grew _ _).2.1 g hg'
        have hw1s : w1.heap.size = w.heap.size + 1 := by rw [← hw1]; exact (grew _ _).2.2
        have hw1r : w1.os = w.os ∧ w1.tape = w.tape ∧ w1.output = w.output := by rw [← hw1]; exact ⟨rfl, rfl, rfl⟩
        obtain ⟨k1, k2, k3, k4, k5, k6⟩ := setCells_heap w.heap.size vs i w1
        obtain ⟨j1, j2, j3, j4, j5, j6⟩ := setCells_heap w.heap.size (cs.drop i) (i + vs.length) (w1.setCells w.heap.size i vs).drew
        refine ⟨_, rfl, ?_, ⟨by rw [j3]; show _ ≤ (w1.setCells w.heap.size i vs).heap.size; rw [k3]; omega, fun g hg' _ => (j2 g (by omega)).trans ((k2 g (by omega)).trans (hw1o g hg')), j4.trans (k4.trans hw1r.1), j5.trans (k5.trans hw1r.2.1), j6.trans (k6.trans hw1r.2.2)⟩, .inr ⟨w.heap.size, rfl, Nat.le_refl _⟩⟩
        rw [hrl]
        have := grown _ (cs.take i ++ vs ++ cs.drop i) G hrl hg hgm _ ?_ ?_ (j1 _ _ (k1 _ _ hw1b))
        · rwa [hrl] at this
        · rw [putL_size, putL_size]; exact hrs
        · rw [putL_list _ _ _ (by rw [putL_size]; omega), putL_list _ _ _ (by omega)]
          have e1 : (row.toList.take i).length = i := by rw [List.length_take, Array.length_toList]; omega
          have e2 : (List.take i row.toList ++ vs ++ List.drop (i + vs.length) row.toList).take (i + vs.length) = cs.take i ++ vs := by
            rw [List.take_append_of_le_length (by rw [List.length_append, e1]; exact Nat.le_refl _), List.take_of_length_le (by rw [List.length_append, e1]; exact Nat.le_refl _), hrt]
          rw [e2, List.take_append_of_le_length (by rw [hrl]; omega), List.take_of_length_le (by rw [hrl]; omega)]

theorem ownI_in {w : World} {G : Gh} {p : Nat} {l : List Int} (h : OwnS w G p 3 ⟨.sl (.one (.int .i64)), l⟩) :
    w.ownsRow 0 3 1 (G.hv p) (l.map (Value.int .i64)).length (l.map (Value.int .i64)) ∧ (∀ g, (G.hv p).ownBlock = some g → G.L g = .arr p) := by
  obtain ⟨els, xs, he, ho, hx, hb, _, _⟩ := h
  have he : some (List.map (rowCells (.one (.int .i64))) l) = some els := he
  have he := Option.some.inj he
  subst he
  have ho : w.ownsRow 0 3 1 (G.hv p) (List.map (rowCells (.one (.int .i64))) l).length xs := ho
  have e1 : (List.map (rowCells (.one (.int .i64))) l).length = l.length := List.length_map _
  rw [e1] at ho
  have e2 : xs = l.map (Value.int .i64) := by
    apply List.ext_getElem?
    intro i
    rw [List.getElem?_map]
    cases hi : l[i]? with
    | none =>
      have : l.length ≤ i := List.getElem?_eq_none_iff.mp hi
      exact List.getElem?_eq_none (by rw [ho.1]; omega)
    | some y =>
      obtain ⟨v, h1, h2⟩ := hx i 0 [⟨.int .i64, y⟩] ⟨.int .i64, y⟩ (els_map (rowCells (.one (.int .i64))) hi) rfl
      have h1 : xs[i * 1 + 0]? = some v := h1
      rw [Nat.mul_one, Nat.add_zero] at h1
      rw [h1, h2.int_inv]
      rfl
  subst e2
  rw [List.length_map]
  exact ⟨ho, hb⟩

theorem ownI_out {w : World} {G : Gh} {p : Nat} {l : List Int} (ho : w.ownsRow 0 3 1 (G.hv p) (l.map (Value.int .i64)).length (l.map (Value.int .i64))) (hb : ∀ g, (G.hv p).ownBlock = some g → G.L g = .arr p) (hs : G.esz p = 1) :
    OwnS w G p 3 ⟨.sl (.one (.int .i64)), l⟩ := by
  refine ⟨List.map (rowCells (.one (.int .i64))) l, l.map (Value.int .i64), rfl, ?_, fun i j L x hi hj => ?_, hb, hs, Nat.one_pos⟩
  · show w.ownsRow 0 3 1 (G.hv p) (List.map (rowCells (.one (.int .i64))) l).length _
    have e1 : (List.map (rowCells (.one (.int .i64))) l).length = l.length := List.length_map _
    rw [e1]
    rwa [List.length_map] at ho
  · obtain ⟨y, hy, rfl⟩ := map_els (α := Int) (rowCells (.one (.int .i64))) hi
    match j with
    | 0 =>
      cases hj
      refine ⟨.int .i64 y, ?_, .int _ _⟩
      show (l.map (Value.int .i64))[i * 1 + 0]? = _
      rw [Nat.mul_one, Nat.add_zero, List.getElem?_map, hy]; rfl
    | j + 1 => simp [rowCells] at hj

theorem int_one (l : List Int) : ∀ v ∈ l.map (Value.int .i64), v.oneCell' = true := by
  intro v hv
  obtain ⟨x, _, rfl⟩ := List.mem_map.mp hv
  rfl

theorem insI_some {e0 e1 : Nat} {l v y : List Int} {i : Int} (h : insI e0 e1 l i v = some y) : e0 = 3 ∧ e1 = 3 ∧ 0 ≤ i ∧ i.toNat ≤ l.length ∧ 0 < v.length ∧ l.length + v.length ≤ 17592186044416 ∧ y = l.take i.toNat ++ v ++ l.drop i.toNat := by
  unfold insI at h
  split at h
  · rename_i hc
    exact ⟨hc.1, hc.2.1, hc.2.2.1, hc.2.2.2.1, hc.2.2.2.2.1, hc.2.2.2.2.2, (Option.some.inj h).symm⟩
  · cases h

theorem insert_post {w : World} {G : Gh} {l v y : List Int} {i : Int} (sg : Sig) (hsg : sg.rs = [.c (.sl (.one (.int .i64))) (some 3)]) (hbs : sg.bs = []) (yT : sg.row.T) (hrow : rowCells sg.row yT = [⟨.sl (.one (.int .i64)), y⟩])
    (hE : Entry w G [G.hv 0, .int .i64 i, G.hv 128] [.own 3 (.sl (.one (.int .i64))) l, .cell (.int .i64) i false, .own 3 (.sl (.one (.int .i64))) v])
    (h0 : 0 ≤ i) (h1 : i.toNat ≤ l.length) (h2 : 0 < v.length) (h3 : l.length + v.length ≤ 17592186044416) (hy : y = l.take i.toNat ++ v ++ l.drop i.toNat) :
    Calls Try.prog 51 #[G.hv 0, .int .i64 i, G.hv 128] w fun e w' => ∃ u, e = .returned u ∧ Post sg [] w G yT u w' := by
  obtain ⟨u0, o0⟩ := hE.mem.lives 0 3 ⟨.sl (.one (.int .i64)), l⟩ rfl
  obtain ⟨u1, o1⟩ := hE.mem.lives 128 3 ⟨.sl (.one (.int .i64)), v⟩ rfl
  obtain ⟨r0, b0⟩ := ownI_in o0
  obtain ⟨r1, b1⟩ := ownI_in o1
  have hne : ∀ g, (G.hv 0).ownBlock = some g → (G.hv 128).ownBlock ≠ some g := fun g hg hg1 => by
    have := (b0 g hg).symm.trans (b1 g hg1)
    cases this
  have hi : i = (i.toNat : Int) := (Int.toNat_of_nonneg h0).symm
  have hcon := insert_calls w (G.hv 0) (G.hv 128) (l.map (Value.int .i64)) (v.map (Value.int .i64)) i.toNat r0 r1 hne (by rw [List.length_map]; exact h1) (by rw [List.length_map]; exact h2) (by rw [List.length_map, List.length_map]; omega) (int_one l) (int_one v)
  rw [← hi] at hcon
  refine hcon.mono ?_
  rintro e w' ⟨v', rfl, ho, hs, hb⟩
  rw [← List.map_take, ← List.map_drop, ← List.map_append, ← List.map_append, ← hy] at ho
  have fresh := hE.mem.fresh
  refine ⟨v', rfl, ⟨fun g => if v'.ownBlock = some g then .arr 0 else if (G.hv 0).ownBlock = some g then .free else G.L g, G.base, fun p => if p = 0 then v' else G.hv p, fun p => if p = 0 then 1 else G.esz p, G.used⟩, [v'], [0], [], [⟨.sl (.one (.int .i64)), y⟩], [], rfl, ?_, ?_, ?_, by simp, hs.mono fun g hg => ?_, fun g hg => ?_, fun g hg hn => ?_, fun r hr => by cases hr⟩
  · rw [hrow]; rfl
  · rw [hsg]
    refine .c _ _ [] _ [] v' [] [0] [] (.ow 3 _ 0 (ownI_out ?_ (fun g hg => ?_) ?_)) .nil
    · exact ho
    · have hg : v'.ownBlock = some g := hg
      show (if v'.ownBlock = some g then Lab.arr 0 else _) = _
      rw [if_pos hg]
    · rfl
  · rw [hbs]; exact .nil
  · rw [b0 g hg]; trivial
  · have hlt : ∀ g, v'.ownBlock = some g → g < w'.heap.size := fun g hg => by
      rcases ho.2 with ⟨rfl, _⟩ | ⟨k, c, cur, rfl, _, hb', _⟩
      · cases hg
      · cases hg; exact (Array.getElem?_eq_some_iff.1 hb').1
    show (if v'.ownBlock = some g then Lab.arr 0 else if (G.hv 0).ownBlock = some g then .free else G.L g) = .free
    rw [if_neg (fun e => by have := hlt g e; omega)]
    split
    · rfl
    · exact fresh g (Nat.le_trans hs.size hg)
  · show (if v'.ownBlock = some g then Lab.arr 0 else if (G.hv 0).ownBlock = some g then .free else G.L g) = G.L g
    have n0 : (G.hv 0).ownBlock ≠ some g := fun e => hn (by rw [b0 g e]; trivial)
    rw [if_neg (fun e => ?_), if_neg n0]
    rcases hb with hb | ⟨k, hk, hk2⟩
    · exact n0 (hb.symm.trans e)
    · rw [hk] at e; cases e; omega

theorem insert_ok (xs : List X) (y : (sig0 51).row.T) (h : ext_slices_Insert_int_int xs = some y) : FnOk Try.prog (sig0 51) 51 xs y := by
  unfold ext_slices_Insert_int_int at h
  split at h
  · rename_i e0 l i e1 v
    obtain ⟨rfl, rfl, h0, h1, h2, h3, h4⟩ := insI_some h
    refine ⟨fun args w => run_enter Try.func51 (by kernel_rfl) (Option.eq_some_of_isSome (by kernel_rfl)) args w, ?_⟩
    intro w vs G hE
    have hl := hE.len
    match vs, hl, hE with
    | [a, b, c], _, hE =>
      have k0 : RepV w G (.own 0) a := hE.tmps 0
      have k1 : RepV w G (.cell (.int .i64) i false) b := hE.tmps 1
      have k2 : RepV w G (.own 128) c := hE.tmps 2
      cases k0 with
      | own _ g0 =>
      cases k1 with
      | cell _ _ _ _ k1 =>
      cases k2 with
      | own _ g2 =>
      have k1 := k1.int_inv
      subst k1
      exact insert_post (y := y) _ rfl rfl y rfl hE h0 h1 h2 h3 h4
  · cases h

end Go.Proofs.Ytoifbdaaiejbnaa.D
/- What the book says of a function, the function does. -/
namespace Go.Proofs.Ytoifbdaaiejbnaa.D
open Go Go.RowKit

theorem mixed : Try.prog.follows .mixedOrders = true := by kernel_rfl
theorem names_ok : (Try.prog.funcs.toList.all fun fn => !(fn.name == "runtime.NumGoroutine")) = true := by kernel_rfl

theorem inp0_ok (f : Nat) (I : Inp) (h : inp0 f = some I) : InpOk Try.prog f I := by
  unfold inp0 at h
  cases hb : Nat.beq f 55 with
  | false => rw [hb] at h; cases h
  | true =>
    rw [hb] at h
    have e := Nat.eq_of_beq_eq_true hb
    subst e
    have h := Option.some.inj h
    subst h
    exact sortSpan_ok

theorem sound {k f : Nat} {xs : List X} {y : (B0.sig f).row.T} (h : B0.call k f xs = some y) : FnOk Try.prog (B0.sig f) f xs y := by
  refine book_sound B0 mixed ?_ ?_ (fun f I h => inp0_ok f I h) h
  · intro f fn c hf _
    have hf : Try.prog.funcs[f]? = some fn := hf
    have h2 := (List.all_eq_true.mp names_ok) fn (by rw [← Array.getElem?_toList] at hf; exact List.mem_of_getElem? hf)
    simpa using h2
  · intro f g xs y hx hy
    have hx : ext0 f = some g := hx
    unfold ext0 at hx
    split at hx
    · cases hx; exact insert_ok xs y hy
    · cases hx

end Go.Proofs.Ytoifbdaaiejbnaa.D
/- What rows of patterns share. -/
namespace Go.Proofs.Ytoifbdaaiejbnaa.D
open Go Go.ChangeShapes Go.WideShapes
theorem alive_true (k : Nat) : law08_alive.C (B0.call (k + 80)) = some true := by kernel_rfl
theorem Pat.Wf.lens : ∀ {p : Pat}, p.Wf → p.Lens := by
  intro p
  refine Pat.induct (motive := fun p => p.Wf → p.Lens) (fun p ih h => ?_) p
  cases h with
  | mk k s l hk hs hsl hl hll => exact .mk k s l (fun q hq => ih q hq (hl q hq)) (by unfold maxLen at hsl; omega) (by unfold maxLen at hll; omega)
theorem pat_opened {H : Type} {enc : TypeId × Value → H} {w : World} {base : Nat} {spare : Nat → Bool} {held : Bool} {cs : Array Value} {d : DataW H} {q : List MemPlace} (h : DataW.Trod enc Try.prog w base spare held 25 (.agg cs) d q) :
    ∃ p : Pat, cs.toList.length = 3 ∧ (∀ (j : Nat) c v, (Pat.cells p)[j]? = some c → cs.toList[j]? = some v → RepC w (Old w) c v) ∧ p.Wf := by
  obtain ⟨fuel, hf⟩ := h
  exact opens_pat Try.underlying25 (by kernel_rfl) rfl rfl rfl (by kernel_rfl) (by kernel_rfl) (by kernel_rfl) Try.underlying3 Try.underlying22 Try.underlying23 Try.underlying80 rfl rfl Try.underlying48 Try.underlying48 (by kernel_rfl) (by kernel_rfl) (by kernel_rfl) fuel _ _ (by simpa [Value.cells] using hf)
theorem nums_opened {H : Type} {enc : TypeId × Value → H} {w : World} {base : Nat} {spare : Nat → Bool} {held : Bool} {a : Option Addr} {n c : Nat} {d : DataW H} {q : List MemPlace} (h : DataW.Trod enc Try.prog w base spare held 43 (.slice a n c) d q) :
    ∃ l : List Int, RepC w (Old w) ⟨.sl (.one (.int .u32)), l⟩ (.slice a n c) ∧ (∀ x ∈ l, (Lit.int .u32 x).wf = true) ∧ l.length ≤ maxLen := by
  obtain ⟨fuel, hf⟩ := h
  obtain ⟨l, v, e, h1, h2, h3⟩ := opens_ints Try.underlying43 Try.underlying48 (by kernel_rfl) (by simpa [Value.cells] using hf)
  cases e
  exact ⟨l, h1, h2, h3⟩
end Go.Proofs.Ytoifbdaaiejbnaa.D
namespace Go.Proofs.Ytoifbdaaiejbnaa.posRuns
open Go.ChangeShapes Go.WideShapes Go.ChangeAt Go.RowKit Go.Proofs.Ytoifbdaaiejbnaa.D
theorem own : ownKnob Try.prog.godebug = none := by kernel_rfl
theorem laidOut : laidOutB Try.prog = true := by kernel_rfl
set_option maxRecDepth 100000 in
theorem lifted (os : Os) (started : os.Started) (H : Type) (enc : TypeId × Value → H) :
    ReturnsInHanded {} Try.checked os 5 .any (Rows.posRunsSpec.pre6 enc Try.prog Try.f5 Rows.posRunsRow.domain false) (Rows.posRunsSpec.post enc Try.prog Try.f5 false true false false) := by
  refine returnsInHanded_of_change_sized (C := Try.checked) own started (by kernel_rfl) Try.func5
    (ChangeSpec.witness6 (enc := enc) (C := Try.checked) false ⟨#[], #[.agg #[.int .i64 0, .slice none 0 0, .slice none 0 0], .slice none 0 0], []⟩ 8 (by kernel_rfl) (by kernel_rfl) (by kernel_rfl) (by kernel_rfl)) ?_
  intro W base args ds gs before hval0 hW hcnd hsz0 _
  have hval : ∀ (j : Nat) t v, Try.f5.params[j]? = some t → args[j]? = some v → Value.okWide Try.prog W .any base t v := hval0
  have hW' := hW
  obtain ⟨p, q, hA0, hV, rfl, hfz, hnd⟩ := hW
  have hA : DataW.TrodAll enc Try.prog W 0 (fun _ => true) true Try.f5.params.toList args.toList ds p := hA0
  rw [Try.params5] at hA hval
  obtain ⟨v0, vs0, d0, ds0, p0, q0, hargs, rfl, rfl, h0, r0⟩ := trodAll_cons hA
  obtain ⟨v1, vs1, d1, ds1, p1, q1, rfl, rfl, rfl, h1, r1⟩ := trodAll_cons r0
  obtain ⟨rfl, rfl, rfl⟩ := trodAll_nil r1
  obtain rfl : args = #[v0, v1] := by cases args; simp_all
  obtain ⟨rfl, rfl⟩ := trodVars_none hV
  obtain ⟨cs0, rfl, hz0⟩ := okWide_struct Try.underlying25 (hval 0 25 v0 rfl rfl)
  obtain ⟨a1, n1, c1, rfl⟩ := okWide_slice Try.underlying43 (hval 1 43 v1 rfl rfl)
  have k0 := h0
  have k1 := h1
  have lt0 : ∀ x ∈ p0, x.block < W.heap.size := by obtain ⟨m, hm⟩ := k0; exact DataW.trod_lt m _ _ _ hm
  have lt1 : ∀ x ∈ p1, x.block < W.heap.size := by obtain ⟨m, hm⟩ := k1; exact DataW.trod_lt m _ _ _ hm
  obtain ⟨x0, hl0, hr0, hw0⟩ := pat_opened h0
  obtain ⟨x1, hr1, hw1, hl1⟩ := nums_opened h1
  obtain ⟨cs0⟩ := cs0
  clear hA0 hval0 hsz0
  obtain ⟨k, hk⟩ : ∃ k : Nat, 4 * 2 ^ 64 + 4398046511104 + x0.parts < k + 80 := ⟨4 * 2 ^ 64 + 4398046511104 + x0.parts, by omega⟩
  have hc : B0.call (k + 80 + 1) 5 [.agg (Pat.cells x0), .cell (.sl (.one (.int .u32))) x1 false] = some true := law08_PosRuns.spec x0 hw0.lens hw0 x1 (k + 80) hk (alive_true k)
  have hok := sound hc
  have ha : ArgsOk W [.agg (Pat.cells x0), .cell (.sl (.one (.int .u32))) x1 false] [.agg ⟨cs0⟩, .slice a1 n1 c1] := .agg _ _ _ _ hl0 hr0 (.cell _ _ _ _ _ hr1 .nil)
  refine (bool_call (b := true) hok ha rfl rfl rfl).mono fun e W' ⟨he, bel⟩ => ?_
  subst he
  exact ⟨_, rfl, _, _, _, [], _, [], hW', trodAll_mk1 (shut_bool Try.underlying4 _), (trodAll_cons_mk (Below.trod laidOut (by kernel_rfl) (of_decide_eq_true (by kernel_rfl)) k0 bel lt0) (trodAll_cons_mk (Below.trod laidOut (by kernel_rfl) (of_decide_eq_true (by kernel_rfl)) k1 bel lt1) trodAll_mk0)), rfl, bel.frame _, fun h => by cases h⟩
theorem over : Rows.posRunsRow.holds Try.pinned (OpenSpec.ofChange Rows.posRunsSpec) :=
  OpenClaim.holds_of_wide 5 Try.f5 rfl rfl rfl rfl rfl rfl rfl ⟨rfl, rfl, rfl, rfl, rfl⟩ rfl rfl rfl rfl rfl (by kernel_rfl) Try.func5 (by kernel_rfl)
    (of_decide_eq_true (by kernel_rfl)) (by unfold Func.isWrapper; first | (rw [if_pos (by decide +kernel)]; kernel_rfl) | (rw [if_neg (by decide +kernel)]; exact ⟨rfl, rfl⟩))
    (fun os started H enc _ => lifted os started H enc)
theorem proved : Rows.PosRunsSaid := over
end Go.Proofs.Ytoifbdaaiejbnaa.posRuns
namespace Go.Proofs.Ytoifbdaaiejbnaa
/-- The row, under a short name, for the claim. -/
theorem posRuns_holds : Rows.PosRunsSaid := posRuns.proved
#print axioms posRuns_holds
end Go.Proofs.Ytoifbdaaiejbnaa
