/-
  Proved: for every input the law SpanCuts answers true, and each argument reads behind the call as it read before.
  Conditions: none beside the row's own.
-/
import Derived.Lib.SlicesCompact
import Derived.Test.YtconaifcjnpabaaRows
import Derived.WalkKit
import Derived.ProofKit
import Derived.OpenShut
import Derived.ShutString
import Derived.ChangeOld
import Derived.Below
import Derived.SizedLaws
import Derived.Test.YtconaifcjnpabaaCSpanCuts0
import Derived.Test.YtconaifcjnpabaaCSpanCuts1
import Derived.Test.YtconaifcjnpabaaCSpanCuts2
import Derived.Test.YtconaifcjnpabaaCSpanCuts3
namespace Go.Proofs.Ytconaifcjnpabaa.P
open Go.RowKit Go.Proofs.YtconaifcjnpabaaW.PrintWords Go.Proofs.YtconaifcjnpabaaW.PrintMore
set_option linter.unusedVariables false
/-! Cuts, and sets by pieces. -/
def Rising (l : List Int) : Prop := l.Pairwise (· < ·)
def ins (n : Int) (l : List Int) : List Int :=
  match l.dropWhile (fun a => decide (a < n)) with
  | [] => l ++ [n]
  | a :: r => if a = n then l else l.takeWhile (fun a => decide (a < n)) ++ n :: (a :: r)
theorem ins_split (n : Int) : ∀ l : List Int, l = l.takeWhile (fun a => decide (a < n)) ++ l.dropWhile (fun a => decide (a < n)) := fun l => List.takeWhile_append_dropWhile.symm
theorem tw_lt (n : Int) (l : List Int) : ∀ x ∈ l.takeWhile (fun a => decide (a < n)), x < n := by
  induction l with
  | nil => intro x hx; simp at hx
  | cons a r ih =>
    intro x hx
    rw [List.takeWhile_cons] at hx
    split at hx
    · rename_i h
      rcases List.mem_cons.1 hx with rfl | hx
      · simpa using h
      · exact ih x hx
    · simp at hx
theorem dw_head (n : Int) (l : List Int) (a : Int) (r : List Int) (h : l.dropWhile (fun a => decide (a < n)) = a :: r) : n ≤ a := by
  induction l with
  | nil => simp at h
  | cons b t ih =>
    rw [List.dropWhile_cons] at h
    split at h
    · exact ih h
    · rename_i hb
      obtain ⟨rfl, rfl⟩ := List.cons.inj h
      have : ¬ b < n := by simpa using hb
      omega
theorem mem_ins (n : Int) (l : List Int) (x : Int) : x ∈ ins n l ↔ x = n ∨ x ∈ l := by
  unfold ins
  split
  · simp [or_comm]
  · rename_i a r h
    have hs := ins_split n l
    rw [h] at hs
    split
    · rename_i ha
      subst ha
      constructor
      · exact .inr
      · rintro (rfl | hx)
        · rw [hs]; simp
        · exact hx
    · generalize l.takeWhile (fun a => decide (a < n)) = p at hs
      subst hs
      simp only [List.mem_append, List.mem_cons]
      constructor
      · rintro (h1 | h1 | h1 | h1) <;> simp [h1]
      · rintro (h1 | h1 | h1 | h1) <;> simp [h1]
theorem rising_ins (n : Int) (l : List Int) (hl : Rising l) : Rising (ins n l) := by
  unfold ins
  have hs := ins_split n l
  have ht := tw_lt n l
  split
  · rename_i h
    rw [h, List.append_nil] at hs
    unfold Rising
    rw [List.pairwise_append]
    refine ⟨hl, List.pairwise_singleton _ _, fun a ha b hb => ?_⟩
    rw [List.mem_singleton.1 hb]
    exact ht a (hs ▸ ha)
  · rename_i a r h
    have ha := dw_head n l a r h
    rw [h] at hs
    split
    · exact hl
    · rename_i hne
      generalize l.takeWhile (fun a => decide (a < n)) = p at hs ht
      subst hs
      unfold Rising at hl ⊢
      rw [List.pairwise_append] at hl ⊢
      obtain ⟨h1, h2, h3⟩ := hl
      refine ⟨h1, ?_, fun x hx y hy => ?_⟩
      · rw [List.pairwise_cons]
        refine ⟨fun y hy => ?_, h2⟩
        rw [List.pairwise_cons] at h2
        rcases List.mem_cons.1 hy with rfl | hy
        · omega
        · have := h2.1 y hy; omega
      · rcases List.mem_cons.1 hy with rfl | hy
        · exact ht x hx
        · exact h3 x hx y hy
theorem length_ins (n : Int) (l : List Int) : (ins n l).length ≤ l.length + 1 := by
  unfold ins
  split
  · simp
  · rename_i a r h
    have hs := congrArg List.length (ins_split n l)
    rw [h] at hs
    split
    · omega
    · simp only [List.length_append, List.length_cons] at hs ⊢
      omega
/-- The cuts of one set, put to others. -/
def cutS : List Int → List S33 → List Int
  | b, [] => b
  | b, s :: r => if s.f0 > s.f1 then cutS b r else if s.f1 < 4294967295 then cutS (ins (s.f1 + 1) (ins s.f0 b)) r else cutS (ins s.f0 b) r
def cutL : List Int → List (List S33) → List Int
  | b, [] => b
  | b, l :: r => cutL (cutS b l) r
def IsCut (l : List S33) (x : Int) : Prop := ∃ s ∈ l, s.f0 ≤ s.f1 ∧ (x = s.f0 ∨ s.f1 < 4294967295 ∧ x = s.f1 + 1)
theorem IsCut_cons (s : S33) (l : List S33) (x : Int) : IsCut (s :: l) x ↔ (s.f0 ≤ s.f1 ∧ (x = s.f0 ∨ s.f1 < 4294967295 ∧ x = s.f1 + 1)) ∨ IsCut l x := by
  unfold IsCut
  constructor
  · rintro ⟨z, hz, h⟩
    rcases List.mem_cons.1 hz with rfl | hz
    · exact .inl h
    · exact .inr ⟨z, hz, h⟩
  · rintro (h | ⟨z, hz, h⟩)
    · exact ⟨s, List.mem_cons_self, h⟩
    · exact ⟨z, List.mem_cons_of_mem _ hz, h⟩
theorem cutS_spec : ∀ (l : List S33) (b : List Int), Rising b → Rising (cutS b l) ∧ (∀ x, x ∈ cutS b l ↔ x ∈ b ∨ IsCut l x) ∧ (cutS b l).length ≤ b.length + 2 * l.length
  | [], b, hb => ⟨hb, fun x => by simp [cutS, IsCut], by simp [cutS]⟩
  | s :: r, b, hb => by
    unfold cutS
    by_cases h1 : s.f0 > s.f1
    · rw [if_pos h1]
      obtain ⟨q1, q2, q3⟩ := cutS_spec r b hb
      refine ⟨q1, fun x => ?_, by simp only [List.length_cons]; omega⟩
      rw [q2, IsCut_cons]
      have : ¬ (s.f0 ≤ s.f1) := by omega
      simp [this]
    · rw [if_neg h1]
      have h1' : s.f0 ≤ s.f1 := by omega
      have l1 := length_ins s.f0 b
      by_cases h2 : s.f1 < 4294967295
      · rw [if_pos h2]
        have l2 := length_ins (s.f1 + 1) (ins s.f0 b)
        obtain ⟨q1, q2, q3⟩ := cutS_spec r _ (rising_ins (s.f1 + 1) _ (rising_ins s.f0 b hb))
        refine ⟨q1, fun x => ?_, by simp only [List.length_cons]; omega⟩
        rw [q2, IsCut_cons, mem_ins, mem_ins]
        constructor
        · rintro ((h | h | h) | h)
          · exact .inr (.inl ⟨h1', .inr ⟨h2, h⟩⟩)
          · exact .inr (.inl ⟨h1', .inl h⟩)
          · exact .inl h
          · exact .inr (.inr h)
        · rintro (h | ⟨_, h | ⟨_, h⟩⟩ | h)
          · exact .inl (.inr (.inr h))
          · exact .inl (.inr (.inl h))
          · exact .inl (.inl h)
          · exact .inr h
      · rw [if_neg h2]
        obtain ⟨q1, q2, q3⟩ := cutS_spec r _ (rising_ins s.f0 b hb)
        refine ⟨q1, fun x => ?_, by simp only [List.length_cons]; omega⟩
        rw [q2, IsCut_cons, mem_ins]
        constructor
        · rintro ((h | h) | h)
          · exact .inr (.inl ⟨h1', .inl h⟩)
          · exact .inl h
          · exact .inr (.inr h)
        · rintro (h | ⟨_, h | ⟨h, _⟩⟩ | h)
          · exact .inl (.inr h)
          · exact .inl (.inl h)
          · exact absurd h h2
          · exact .inr h
theorem cutL_spec : ∀ (L : List (List S33)) (b : List Int), Rising b → Rising (cutL b L) ∧ (∀ x, x ∈ cutL b L ↔ x ∈ b ∨ ∃ l ∈ L, IsCut l x)
  | [], b, hb => ⟨hb, fun x => by simp [cutL]⟩
  | l :: r, b, hb => by
    obtain ⟨p1, p2, _⟩ := cutS_spec l b hb
    obtain ⟨q1, q2⟩ := cutL_spec r _ p1
    refine ⟨q1, fun x => ?_⟩
    rw [cutL, q2, p2]
    constructor
    · rintro ((h | h) | ⟨z, hz, h⟩)
      · exact .inl h
      · exact .inr ⟨l, List.mem_cons_self, h⟩
      · exact .inr ⟨z, List.mem_cons_of_mem _ hz, h⟩
    · rintro (h | ⟨z, hz, h⟩)
      · exact .inl (.inl h)
      · rcases List.mem_cons.1 hz with rfl | hz
        · exact .inl (.inr h)
        · exact .inr ⟨z, hz, h⟩
/-- Between two cuts a set has all numbers or none. -/
theorem in_at_cut (l : List S33) (c x : Int) (hr : Rng l) (hcx : c ≤ x) (hxm : x ≤ 4294967295) (h : ∀ z, IsCut l z → z ≤ x → z ≤ c) : InS l x = InS l c := by
  rw [Bool.eq_iff_iff, InS_iff, InS_iff]
  constructor
  · rintro ⟨s, hs, h0, h1⟩
    have h2 := h s.f0 ⟨s, hs, by omega, .inl rfl⟩ h0
    exact ⟨s, hs, h2, by omega⟩
  · rintro ⟨s, hs, h0, h1⟩
    refine ⟨s, hs, by omega, ?_⟩
    by_cases h3 : x ≤ s.f1
    · exact h3
    · have h4 := h (s.f1 + 1) ⟨s, hs, by omega, .inr ⟨?_, rfl⟩⟩ (by omega)
      · omega
      · by_cases h5 : s.f1 < 4294967295
        · exact h5
        · omega
/-- Pieces: where each begins, and whether it is asked for. -/
def pieceIn : List (Int × Bool) → Int → Bool
  | [], _ => false
  | (n, f) :: r, x => if x < n then false else match r with
    | [] => f && decide (x ≤ 4294967295)
    | (m, g) :: r' => if x < m then f else pieceIn ((m, g) :: r') x
def endOf : List (Int × Bool) → Int
  | [] => 4294967295
  | (m, _) :: _ => m - 1
def setEnd (out : List S33) (e : Int) : List S33 := match out.getLast? with | none => [] | some x => out.dropLast ++ [⟨x.f0, e⟩]
def fromL : Bool → List S33 → List (Int × Bool) → List S33
  | _, out, [] => out
  | prev, out, (n, f) :: r => if f then (if prev then fromL true (setEnd out (endOf r)) r else fromL true (out ++ [⟨n, endOf r⟩]) r) else fromL false out r
theorem endOf_ge (n : Int) (r : List (Int × Bool)) (hn : n ≤ 4294967295) (h : ∀ q ∈ r, n < q.1) : n ≤ endOf r := by
  cases r with
  | nil => exact hn
  | cons q r => have := h q List.mem_cons_self; obtain ⟨m, g⟩ := q; show n ≤ m - 1; omega
theorem endOf_le (r : List (Int × Bool)) (h : ∀ q ∈ r, q.1 ≤ 4294967295) : endOf r ≤ 4294967295 := by
  cases r with
  | nil => exact Int.le_refl _
  | cons q r => have := h q List.mem_cons_self; obtain ⟨m, g⟩ := q; show m - 1 ≤ 4294967295; omega
theorem pieceIn_lt (m : Int) (g : Bool) (r : List (Int × Bool)) (y : Int) (h : y < m) : pieceIn ((m, g) :: r) y = false := by
  unfold pieceIn
  rw [if_pos h]
theorem pieceIn_cons (n : Int) (f : Bool) (r : List (Int × Bool)) (y : Int) (h : ∀ q ∈ r, n < q.1) : pieceIn ((n, f) :: r) y = ((f && decide (n ≤ y) && decide (y ≤ endOf r)) || pieceIn r y) := by
  cases r with
  | nil =>
    simp only [pieceIn, endOf, Bool.or_false]
    by_cases h1 : y < n
    · have : ¬ n ≤ y := by omega
      simp [h1, this]
    · have : n ≤ y := by omega
      simp [h1, this]
      try rfl
  | cons q r =>
    obtain ⟨m, g⟩ := q
    have hm : n < m := h (m, g) List.mem_cons_self
    have he : endOf ((m, g) :: r) = m - 1 := rfl
    rw [he, pieceIn]
    by_cases h1 : y < n
    · have h2 : ¬ n ≤ y := by omega
      rw [if_pos h1, pieceIn_lt m g r y (by omega)]
      simp [h2]
    · have h2 : n ≤ y := by omega
      rw [if_neg h1]
      by_cases h3 : y < m
      · have h4 : y ≤ m - 1 := by omega
        rw [if_pos h3, pieceIn_lt m g r y h3]
        simp [h2, h4]
      · have h4 : ¬ y ≤ m - 1 := by omega
        rw [if_neg h3]
        simp [h4]
theorem setEnd_snoc (p : List S33) (x : S33) (e : Int) : setEnd (p ++ [x]) e = p ++ [⟨x.f0, e⟩] := by unfold setEnd; simp
theorem fromL_spec : ∀ (ps : List (Int × Bool)) (prev : Bool) (out : List S33), ps.Pairwise (fun a b => a.1 < b.1) → (∀ q ∈ ps, 0 ≤ q.1 ∧ q.1 ≤ 4294967295) → NF out →
    (prev = true → ∃ p x, out = p ++ [x] ∧ ∀ n f r, ps = (n, f) :: r → x.f1 + 1 = n) → (prev = false → ∀ x ∈ out, ∀ n f r, ps = (n, f) :: r → x.f1 + 1 < n) →
    NF (fromL prev out ps) ∧ ∀ y, InS (fromL prev out ps) y = (InS out y || pieceIn ps y)
  | [], prev, out, _, _, ho, _, _ => ⟨ho, fun y => by simp [fromL, pieceIn]⟩
  | (n, f) :: r, prev, out, hp, hr, ho, h1, h2 => by
    rw [List.pairwise_cons] at hp
    have hn := hr (n, f) List.mem_cons_self
    have hrr : ∀ q ∈ r, 0 ≤ q.1 ∧ q.1 ≤ 4294967295 := fun q hq => hr q (List.mem_cons_of_mem _ hq)
    have he1 := endOf_ge n r hn.2 hp.1
    have he2 := endOf_le r (fun q hq => (hrr q hq).2)
    have hnext : ∀ m g r', r = (m, g) :: r' → endOf r + 1 = m := fun m g r' h => by subst h; show m - 1 + 1 = m; omega
    have hm : ∀ m g r', r = (m, g) :: r' → n < m := fun m g r' h => hp.1 (m, g) (h ▸ List.mem_cons_self)
    have hpc := fun y => pieceIn_cons n f r y hp.1
    generalize hE : endOf r = e at he1 he2 hnext hpc
    cases f with
    | true =>
      cases prev with
      | true =>
        obtain ⟨p, x, rfl, hx⟩ := h1 rfl
        have hx := hx n true r rfl
        obtain ⟨q1, q2, q3⟩ := NF_snoc.1 ho
        unfold Ok at q2
        simp only [fromL, if_true, hE]
        rw [setEnd_snoc]
        obtain ⟨k1, k2⟩ := fromL_spec r true (p ++ [⟨x.f0, e⟩]) hp.2 hrr (NF_snoc.2 ⟨q1, ⟨q2.1, by show x.f0 ≤ e; omega, he2⟩, q3⟩) (fun _ => ⟨p, _, rfl, hnext⟩) (fun h => by cases h)
        refine ⟨k1, fun y => ?_⟩
        rw [k2, hpc, InS_append, InS_append, ← Bool.or_assoc]
        congr 1
        rw [Bool.or_assoc]
        congr 1
        simp only [InS, List.any_cons, List.any_nil, Bool.or_false, inSpan, Bool.true_and]
        rw [Bool.eq_iff_iff]
        simp only [Bool.or_eq_true, Bool.and_eq_true, decide_eq_true_eq]
        omega
      | false =>
        have h2 := fun x hx => h2 rfl x hx n true r rfl
        have hf : fromL false out ((n, true) :: r) = fromL true (out ++ [⟨n, e⟩]) r := by rw [fromL, hE]; rfl
        rw [hf]
        obtain ⟨k1, k2⟩ := fromL_spec r true (out ++ [⟨n, e⟩]) hp.2 hrr (NF_snoc.2 ⟨ho, ⟨hn.1, he1, he2⟩, h2⟩) (fun _ => ⟨out, _, rfl, hnext⟩) (fun h => by cases h)
        refine ⟨k1, fun y => ?_⟩
        rw [k2, hpc, InS_append, ← Bool.or_assoc]
        congr 2
        simp [InS, inSpan]
    | false =>
      have hf : fromL prev out ((n, false) :: r) = fromL false out r := by rw [fromL]; rfl
      rw [hf]
      obtain ⟨k1, k2⟩ := fromL_spec r false out hp.2 hrr ho (fun h => by cases h) (fun _ x hx m g r' hr' => by
        have hmm := hm m g r' hr'
        cases prev with
        | true =>
          obtain ⟨p, z, rfl, hz⟩ := h1 rfl
          have hz := hz n false r rfl
          obtain ⟨q1, q2, q3⟩ := NF_snoc.1 ho
          unfold Ok at q2
          rcases List.mem_append.1 hx with hx | hx
          · have := q3 x hx; omega
          · rw [List.mem_singleton.1 hx]; omega
        | false => have := h2 rfl x hx n false r rfl; omega)
      refine ⟨k1, fun y => ?_⟩
      rw [k2, hpc]
      simp
theorem pieceIn_at (g : Int → Bool) : ∀ (b : List Int) (n x : Int), Rising (n :: b) → n ≤ x → x ≤ 4294967295 →
    ∃ c ∈ n :: b, c ≤ x ∧ (∀ z ∈ n :: b, z ≤ x → z ≤ c) ∧ pieceIn ((n :: b).map (fun n => (n, g n))) x = g c
  | [], n, x, _, h0, h1 => ⟨n, List.mem_cons_self, h0, fun z hz _ => by rw [List.mem_singleton.1 hz]; exact Int.le_refl _, by
      have : ¬ x < n := by omega
      simp [pieceIn, this, h1]⟩
  | m :: b, n, x, hb, h0, h1 => by
    unfold Rising at hb
    rw [List.pairwise_cons] at hb
    have hnm := hb.1 m List.mem_cons_self
    have hx : ¬ x < n := by omega
    by_cases hxm : x < m
    · refine ⟨n, List.mem_cons_self, h0, fun z hz hzx => ?_, by simp [pieceIn, hx, hxm]⟩
      rcases List.mem_cons.1 hz with rfl | hz
      · exact Int.le_refl _
      · rcases List.mem_cons.1 hz with rfl | hz
        · omega
        · have := (List.pairwise_cons.1 hb.2).1 z hz; omega
    · obtain ⟨c, hc, c1, c2, c3⟩ := pieceIn_at g b m x hb.2 (by omega) h1
      refine ⟨c, List.mem_cons_of_mem _ hc, c1, fun z hz hzx => ?_, ?_⟩
      · rcases List.mem_cons.1 hz with rfl | hz
        · have := hb.1 c hc; omega
        · exact c2 z hz hzx
      · rw [← c3]
        simp [pieceIn, hx, hxm]
theorem pieceIn_out (g : Int → Bool) (x : Int) : ∀ (b : List Int), (∀ z ∈ b, 0 ≤ z ∧ z ≤ 4294967295) → Rising b → (x < 0 ∨ 4294967295 < x) → pieceIn (b.map (fun n => (n, g n))) x = false
  | [], _, _, _ => rfl
  | n :: b, h, hb, hx => by
    unfold Rising at hb
    rw [List.pairwise_cons] at hb
    have hn := h n List.mem_cons_self
    have hq : ∀ q ∈ b.map (fun n => (n, g n)), n < q.1 := fun q hq => by
      obtain ⟨z, hz, rfl⟩ := List.mem_map.1 hq
      exact hb.1 z hz
    have hq2 : ∀ q ∈ b.map (fun n => (n, g n)), q.1 ≤ 4294967295 := fun q hq => by
      obtain ⟨z, hz, rfl⟩ := List.mem_map.1 hq
      exact (h z (List.mem_cons_of_mem _ hz)).2
    rw [List.map_cons, pieceIn_cons n (g n) _ x hq, pieceIn_out g x b (fun z hz => h z (List.mem_cons_of_mem _ hz)) hb.2 hx, Bool.or_false]
    have he := endOf_le _ hq2
    rcases hx with hx | hx
    · have : ¬ n ≤ x := by omega
      simp [this]
    · have : ¬ x ≤ endOf (b.map (fun n => (n, g n))) := by omega
      simp [this]
/-- What the document's Set gives: the set's one form, by what is in the two. -/
theorem setL_spec (op : Bool → Bool → Bool) (a c : List S33) (ha : Rng a) (hc : Rng c) :
    NF (fromL false [] ((cutL [0] [a, c]).map (fun n => (n, op (InS a n) (InS c n))))) ∧
    ∀ x, InS (fromL false [] ((cutL [0] [a, c]).map (fun n => (n, op (InS a n) (InS c n))))) x = (decide (0 ≤ x) && decide (x ≤ 4294967295) && op (InS a x) (InS c x)) := by
  obtain ⟨hr, hm⟩ := cutL_spec [a, c] [0] (List.pairwise_singleton _ _)
  have hm' : ∀ x, x ∈ cutL [0] [a, c] ↔ x = 0 ∨ IsCut a x ∨ IsCut c x := fun x => by rw [hm]; simp
  have hrng : ∀ x ∈ cutL [0] [a, c], 0 ≤ x ∧ x ≤ 4294967295 := fun x hx => by
    rcases (hm' x).1 hx with rfl | ⟨s, hs, h1, h2⟩ | ⟨s, hs, h1, h2⟩
    · omega
    · have := ha s hs; omega
    · have := hc s hs; omega
  have h0 : (0 : Int) ∈ cutL [0] [a, c] := (hm' 0).2 (.inl rfl)
  generalize cutL [0] [a, c] = b at hr hm' hrng h0
  obtain ⟨k1, k2⟩ := fromL_spec (b.map (fun n => (n, op (InS a n) (InS c n)))) false [] (by
      rw [List.pairwise_map]
      exact hr) (fun q hq => by
      obtain ⟨z, hz, rfl⟩ := List.mem_map.1 hq
      exact hrng z hz) NF_nil (fun h => by cases h) (fun _ x hx => (List.not_mem_nil hx).elim)
  refine ⟨k1, fun x => ?_⟩
  rw [k2, InS_nil, Bool.false_or]
  by_cases hx : 0 ≤ x ∧ x ≤ 4294967295
  · have hd : (decide (0 ≤ x) && decide (x ≤ 4294967295)) = true := by simp [hx.1, hx.2]
    rw [hd, Bool.true_and]
    cases b with
    | nil => simp at h0
    | cons n b =>
      have hn0 : n = 0 := by
        unfold Rising at hr
        rw [List.pairwise_cons] at hr
        rcases List.mem_cons.1 h0 with h | h
        · exact h.symm
        · have := hr.1 0 h
          have := hrng n List.mem_cons_self
          omega
      subst hn0
      obtain ⟨z, hz, z1, z2, z3⟩ := pieceIn_at (fun n => op (InS a n) (InS c n)) b 0 x hr hx.1 hx.2
      rw [z3, in_at_cut a z x ha z1 hx.2 (fun y hy hyx => z2 y ((hm' y).2 (.inr (.inl hy))) hyx), in_at_cut c z x hc z1 hx.2 (fun y hy hyx => z2 y ((hm' y).2 (.inr (.inr hy))) hyx)]
  · rw [pieceIn_out _ x b hrng hr (by omega)]
    by_cases h1 : 0 ≤ x
    · have : ¬ x ≤ 4294967295 := by omega
      simp [this]
    · simp [h1]
end Go.Proofs.Ytconaifcjnpabaa.P

namespace Go.Proofs.Ytconaifcjnpabaa.P
open Go.Sort
set_option linter.unusedVariables false
/-! A sorted list with what is alike left out. -/
def cmpU (l : List Int) : List Int := Go.Lib.compactUpTo l.toArray l.length
theorem getB (l : List Int) (i : Nat) (h : i < l.length) : l.toArray[i]! = l[i] := by
  rw [getElem!_pos l.toArray i (by simpa using h)]
  simp
theorem cmpU_lt (l : List Int) (h : l.Pairwise (fun a b : Int => a ≤ b)) : (cmpU l).Pairwise (fun a b : Int => a < b) := by
  unfold cmpU Go.Lib.compactUpTo
  rw [List.pairwise_map, List.pairwise_filter, List.pairwise_iff_getElem]
  intro i j hi hj hij
  simp only [List.getElem_range]
  intro ki kj
  rw [List.length_range] at hi hj
  rw [List.pairwise_iff_getElem] at h
  simp only [Go.Lib.keeps, decide_eq_true_eq] at kj
  rcases kj with kj | kj
  · omega
  · have e : j - 1 + 1 = j := by omega
    rw [getB l i hi, getB l j hj]
    rw [getB l j hj, getB l (j - 1) (by omega)] at kj
    have h1 := h (j - 1) j (by omega) hj (by omega)
    rcases Nat.lt_or_ge i (j - 1) with h2 | h2
    · have h3 := h i (j - 1) hi (by omega) h2
      omega
    · have e2 : i = j - 1 := by omega
      subst e2
      omega
theorem cmpU_sub (l : List Int) (x : Int) (hx : x ∈ cmpU l) : x ∈ l := by
  unfold cmpU Go.Lib.compactUpTo at hx
  rw [List.mem_map] at hx
  obtain ⟨i, hi, rfl⟩ := hx
  have hi' := List.mem_range.1 (List.mem_filter.1 hi).1
  rw [getB l i hi']
  exact List.getElem_mem hi'
theorem cmpU_sup (l : List Int) : ∀ i (h : i < l.length), l[i] ∈ cmpU l := by
  intro i
  induction i with
  | zero =>
    intro h
    unfold cmpU Go.Lib.compactUpTo
    rw [List.mem_map]
    exact ⟨0, List.mem_filter.2 ⟨List.mem_range.2 h, by simp [Go.Lib.keeps]⟩, getB l 0 h⟩
  | succ i ih =>
    intro h
    by_cases e : l[i + 1] = l[i]
    · rw [e]; exact ih (by omega)
    · unfold cmpU Go.Lib.compactUpTo
      rw [List.mem_map]
      refine ⟨i + 1, List.mem_filter.2 ⟨List.mem_range.2 h, ?_⟩, getB l (i + 1) h⟩
      simp only [Go.Lib.keeps, decide_eq_true_eq]
      refine .inr ?_
      rw [getB l (i + 1) h, Nat.add_sub_cancel, getB l i (by omega)]
      exact e
theorem cmpU_mem (l : List Int) (x : Int) : x ∈ cmpU l ↔ x ∈ l := by
  constructor
  · exact cmpU_sub l x
  · intro h
    obtain ⟨i, hi, rfl⟩ := List.getElem_of_mem h
    exact cmpU_sup l i hi
theorem cmpU_le (l : List Int) : (cmpU l).length ≤ l.length := by
  unfold cmpU Go.Lib.compactUpTo
  rw [List.length_map]
  exact Nat.le_trans (List.length_filter_le _ _) (by simp)
theorem lt_unique : ∀ (l r : List Int), l.Pairwise (fun a b : Int => a < b) → r.Pairwise (fun a b : Int => a < b) → (∀ x, x ∈ l ↔ x ∈ r) → l = r
  | [], [], _, _, _ => rfl
  | [], y :: t, _, _, h => by have := (h y).2 (List.mem_cons_self ..); simp at this
  | x :: s, [], _, _, h => by have := (h x).1 (List.mem_cons_self ..); simp at this
  | x :: s, y :: t, h1, h2, h => by
    rw [List.pairwise_cons] at h1 h2
    have hxy : x = y := by
      rcases List.mem_cons.1 ((h x).1 (List.mem_cons_self ..)) with e | e
      · exact e
      · rcases List.mem_cons.1 ((h y).2 (List.mem_cons_self ..)) with e2 | e2
        · exact e2.symm
        · have a1 := h2.1 x e
          have a2 := h1.1 y e2
          omega
    subst hxy
    rw [lt_unique s t h1.2 h2.2]
    intro z
    constructor
    · intro hz
      rcases List.mem_cons.1 ((h z).1 (List.mem_cons_of_mem _ hz)) with e | e
      · have := h1.1 z hz; omega
      · exact e
    · intro hz
      rcases List.mem_cons.1 ((h z).2 (List.mem_cons_of_mem _ hz)) with e | e
      · have := h2.1 z hz; omega
      · exact e
/-- A list's numbers, each once, rising. -/
def setU (l : List Int) : List Int := cmpU (sortU l)
theorem setU_lt (l : List Int) : (setU l).Pairwise (fun a b : Int => a < b) := cmpU_lt _ (sortU_pair l)
theorem setU_mem (l : List Int) (x : Int) : x ∈ setU l ↔ x ∈ l := (cmpU_mem _ x).trans (sortU_mem l x)
theorem setU_le (l : List Int) : (setU l).length ≤ l.length := Nat.le_trans (cmpU_le _) (Nat.le_of_eq (sortU_len l))
theorem setU_self (l : List Int) (h : l.Pairwise (fun a b : Int => a < b)) : setU l = l := lt_unique _ _ (setU_lt l) h (setU_mem l)
theorem setU_idem (l : List Int) : setU (setU l) = setU l := setU_self _ (setU_lt l)
end Go.Proofs.Ytconaifcjnpabaa.P

namespace Go.Proofs.Ytconaifcjnpabaa.P
open Go.RowKit Go.Proofs.YtconaifcjnpabaaW.PrintWords Go.Proofs.YtconaifcjnpabaaW.PrintMore
set_option linter.unusedVariables false
set_option linter.unusedSimpArgs false
/-! The atoms of sets, by the places where one of them turns. -/
def atomsOf : Int → List Int → List S33
  | f, [] => [⟨f, 4294967295⟩]
  | f, c :: cs => ⟨f, c - 1⟩ :: atomsOf c cs
def cutsN : List S33 → List Int
  | [] => []
  | s :: r => if s.f1 < 4294967295 then s.f0 :: (s.f1 + 1) :: cutsN r else s.f0 :: cutsN r
theorem mem_cutsN (t : List S33) (x : Int) : x ∈ cutsN t ↔ ∃ s ∈ t, x = s.f0 ∨ s.f1 < 4294967295 ∧ x = s.f1 + 1 := by
  induction t with
  | nil => simp [cutsN]
  | cons s r ih =>
    unfold cutsN
    constructor
    · intro h
      split at h
      · rename_i hl
        rcases List.mem_cons.1 h with h | h
        · exact ⟨s, List.mem_cons_self, .inl h⟩
        · rcases List.mem_cons.1 h with h | h
          · exact ⟨s, List.mem_cons_self, .inr ⟨hl, h⟩⟩
          · obtain ⟨z, hz, q⟩ := ih.1 h
            exact ⟨z, List.mem_cons_of_mem _ hz, q⟩
      · rcases List.mem_cons.1 h with h | h
        · exact ⟨s, List.mem_cons_self, .inl h⟩
        · obtain ⟨z, hz, q⟩ := ih.1 h
          exact ⟨z, List.mem_cons_of_mem _ hz, q⟩
    · rintro ⟨z, hz, q⟩
      rcases List.mem_cons.1 hz with rfl | hz
      · split
        · rcases q with q | ⟨_, q⟩
          · rw [q]; exact List.mem_cons_self
          · rw [q]; exact List.mem_cons_of_mem _ List.mem_cons_self
        · rcases q with q | ⟨q, _⟩
          · rw [q]; exact List.mem_cons_self
          · omega
      · have := ih.2 ⟨z, hz, q⟩
        split
        · exact List.mem_cons_of_mem _ (List.mem_cons_of_mem _ this)
        · exact List.mem_cons_of_mem _ this
theorem cutsN_len (t : List S33) : (cutsN t).length ≤ 2 * t.length := by
  induction t with
  | nil => simp [cutsN]
  | cons s r ih => unfold cutsN; split <;> simp only [List.length_cons] <;> omega
theorem nf_apart {t : List S33} (h : NF t) : ∀ a ∈ t, ∀ b ∈ t, a = b ∨ a.f1 + 1 < b.f0 ∨ b.f1 + 1 < a.f0 := by
  induction t with
  | nil => intro a ha; simp at ha
  | cons s r ih =>
    obtain ⟨h1, h2, h3⟩ := NF_cons.1 h
    intro a ha b hb
    rcases List.mem_cons.1 ha with ea | ha <;> rcases List.mem_cons.1 hb with eb | hb
    · exact .inl (ea.trans eb.symm)
    · rw [ea]; exact .inr (.inl (h2 b hb))
    · rw [eb]; exact .inr (.inr (h2 a ha))
    · exact ih h3 a ha b hb
theorem inS_true {l : List S33} {x : Int} (s : S33) (hs : s ∈ l) (h : s.f0 ≤ x ∧ x ≤ s.f1) : InS l x = true := (InS_iff l x).2 ⟨s, hs, h⟩
theorem nf_turn {t : List S33} (h : NF t) (x : Int) (h0 : 0 < x) (hx : x ≤ 4294967295) : x ∈ cutsN t ↔ InS t x ≠ InS t (x - 1) := by
  have hok := h.1
  rw [mem_cutsN]
  constructor
  · rintro ⟨s, hs, q⟩
    have os := hok s hs
    unfold Ok at os
    rcases q with rfl | ⟨q1, rfl⟩
    · have e1 : InS t s.f0 = true := inS_true s hs (by omega)
      have e2 : InS t (s.f0 - 1) = false := by
        rw [Bool.eq_false_iff]
        intro e
        obtain ⟨z, hz, z0, z1⟩ := (InS_iff t _).1 e
        have oz := hok z hz
        unfold Ok at oz
        rcases nf_apart h s hs z hz with rfl | a | a <;> omega
      rw [e1, e2]; decide
    · have e1 : InS t (s.f1 + 1 - 1) = true := inS_true s hs (by omega)
      have e2 : InS t (s.f1 + 1) = false := by
        rw [Bool.eq_false_iff]
        intro e
        obtain ⟨z, hz, z0, z1⟩ := (InS_iff t _).1 e
        have oz := hok z hz
        unfold Ok at oz
        rcases nf_apart h s hs z hz with rfl | a | a <;> omega
      rw [e1, e2]; decide
  · intro hne
    cases e : InS t x with
    | true =>
      have e2 : InS t (x - 1) = false := by
        cases e3 : InS t (x - 1) with
        | false => rfl
        | true => exact absurd (e.trans e3.symm) hne
      obtain ⟨s, hs, s0, s1⟩ := (InS_iff t x).1 e
      refine ⟨s, hs, .inl ?_⟩
      by_cases hq : s.f0 = x
      · exact hq.symm
      · have := inS_true (x := x - 1) s hs (by omega)
        rw [e2] at this
        exact absurd this (by decide)
    | false =>
      have e2 : InS t (x - 1) = true := by
        cases e3 : InS t (x - 1) with
        | true => rfl
        | false => exact absurd (e.trans e3.symm) hne
      obtain ⟨s, hs, s0, s1⟩ := (InS_iff t (x - 1)).1 e2
      have os := hok s hs
      unfold Ok at os
      refine ⟨s, hs, .inr ?_⟩
      by_cases hq : x ≤ s.f1
      · have := inS_true (x := x) s hs (by omega)
        rw [e] at this
        exact absurd this (by decide)
      · omega
/-- A number at which one of the sets turns. -/
def Turn (L : List (List S33)) (x : Int) : Prop := ∃ l ∈ L, InS l x ≠ InS l (x - 1)
theorem turn_cut (l : List S33) (x : Int) (hr : Rng l) (h0 : 0 < x) (hx : x ≤ 4294967295) (h : InS l x ≠ InS l (x - 1)) : IsCut l x := by
  apply Classical.byContradiction
  intro hc
  refine h (in_at_cut l (x - 1) x hr (by omega) hx ?_)
  intro z hz hzx
  by_cases e : z = x
  · exact absurd (e ▸ hz) hc
  · omega
def dropZ : List Int → List Int
  | [] => []
  | x :: s => if x = 0 then s else x :: s
theorem dropZ_spec (l : List Int) (h : Rising l) (h0 : ∀ x ∈ l, 0 ≤ x) : Rising (dropZ l) ∧ ∀ x, x ∈ dropZ l ↔ x ∈ l ∧ 0 < x := by
  cases l with
  | nil => exact ⟨h, fun x => by simp [dropZ]⟩
  | cons y s =>
    unfold Rising at h
    have h' := List.pairwise_cons.1 h
    simp only [dropZ]
    by_cases e : y = 0
    · rw [if_pos e]
      refine ⟨h'.2, fun x => ?_⟩
      constructor
      · intro hx
        have := h'.1 x hx
        exact ⟨List.mem_cons_of_mem _ hx, by omega⟩
      · rintro ⟨hx, h1⟩
        rcases List.mem_cons.1 hx with rfl | hx
        · omega
        · exact hx
    · rw [if_neg e]
      refine ⟨h, fun x => ?_⟩
      constructor
      · intro hx
        refine ⟨hx, ?_⟩
        have hy := h0 y List.mem_cons_self
        rcases List.mem_cons.1 hx with rfl | hx
        · omega
        · have := h'.1 x hx; omega
      · exact fun hx => hx.1
/-- Of the numbers behind p those at which a set has turned since the one before. -/
def sameAt (L : List (List S33)) (p n : Int) : Bool := L.all (fun l => InS l n == InS l p)
theorem sameAt_false (L : List (List S33)) (p n : Int) : sameAt L p n = false ↔ ∃ l ∈ L, InS l n ≠ InS l p := by
  unfold sameAt
  rw [← Bool.not_eq_true, List.all_eq_true]
  constructor
  · intro h
    apply Classical.byContradiction
    intro hn
    refine h (fun l hl => ?_)
    rw [beq_iff_eq]
    apply Classical.byContradiction
    intro hne
    exact hn ⟨l, hl, hne⟩
  · rintro ⟨l, hl, hne⟩ h
    exact hne (beq_iff_eq.1 (h l hl))
def kf (L : List (List S33)) : Int → List Int → List Int
  | _, [] => []
  | p, n :: r => if sameAt L p n then kf L n r else n :: kf L n r
theorem kf_spec (L : List (List S33)) (hL : ∀ l ∈ L, Rng l) : ∀ (r : List Int) (p : Int), Rising (p :: r) → (∀ x ∈ r, x ≤ 4294967295) → (∀ l ∈ L, ∀ z, IsCut l z → z ≤ p ∨ z ∈ r) →
    Rising (kf L p r) ∧ (∀ x, x ∈ kf L p r ↔ x ∈ r ∧ Turn L x)
  | [], p, _, _, _ => ⟨List.Pairwise.nil, fun x => by simp [kf]⟩
  | n :: r, p, hr, hm, hc => by
    unfold Rising at hr
    obtain ⟨h1, h2⟩ := List.pairwise_cons.1 hr
    have h3 := List.pairwise_cons.1 h2
    have hpn := h1 n List.mem_cons_self
    obtain ⟨k1, k2⟩ := kf_spec L hL r n h2 (fun x hx => hm x (List.mem_cons_of_mem _ hx)) (fun l hl z hz => by
      rcases hc l hl z hz with q | q
      · exact .inl (by omega)
      · rcases List.mem_cons.1 q with q | q
        · exact .inl (by omega)
        · exact .inr q)
    have hsame : ∀ l ∈ L, InS l (n - 1) = InS l p := fun l hl => by
      refine in_at_cut l p (n - 1) (hL l hl) (by omega) (by have := hm n List.mem_cons_self; omega) ?_
      intro z hz hzn
      rcases hc l hl z hz with q | q
      · exact q
      · rcases List.mem_cons.1 q with q | q
        · omega
        · have := h3.1 z q; omega
    have hturn : sameAt L p n = false ↔ Turn L n := by
      rw [sameAt_false]
      constructor
      · rintro ⟨l, hl, q⟩; exact ⟨l, hl, by rw [hsame l hl]; exact q⟩
      · rintro ⟨l, hl, q⟩; exact ⟨l, hl, by rw [← hsame l hl]; exact q⟩
    unfold kf
    cases e : sameAt L p n with
    | true =>
      rw [if_pos rfl]
      refine ⟨k1, fun x => ?_⟩
      rw [k2]
      constructor
      · rintro ⟨q1, q2⟩; exact ⟨List.mem_cons_of_mem _ q1, q2⟩
      · rintro ⟨q1, q2⟩
        rcases List.mem_cons.1 q1 with rfl | q1
        · rw [hturn.2 q2] at e; exact absurd e (by decide)
        · exact ⟨q1, q2⟩
    | false =>
      rw [if_neg (by decide)]
      refine ⟨?_, fun x => ?_⟩
      · unfold Rising at k1 ⊢
        rw [List.pairwise_cons]
        exact ⟨fun x hx => h3.1 x ((k2 x).1 hx).1, k1⟩
      · constructor
        · intro hx
          rcases List.mem_cons.1 hx with rfl | hx
          · exact ⟨List.mem_cons_self, hturn.1 e⟩
          · exact ⟨List.mem_cons_of_mem _ ((k2 x).1 hx).1, ((k2 x).1 hx).2⟩
        · rintro ⟨q1, q2⟩
          rcases List.mem_cons.1 q1 with rfl | q1
          · exact List.mem_cons_self
          · exact List.mem_cons_of_mem _ ((k2 x).2 ⟨q1, q2⟩)
/-- What the sets' cuts have that is told by the turns alone. -/
def Turns (L : List (List S33)) (C : List Int) : Prop := Rising C ∧ ∀ x, x ∈ C ↔ 0 < x ∧ x ≤ 4294967295 ∧ Turn L x
theorem Turns.uniq {L : List (List S33)} {C D : List Int} (h : Turns L C) (k : Turns L D) : C = D := lt_unique C D h.1 k.1 (fun x => (h.2 x).trans (k.2 x).symm)
theorem kf_turns (L : List (List S33)) (hL : ∀ l ∈ L, Rng l) : ∃ r, cutL [0] L = 0 :: r ∧ Turns L (kf L 0 r) ∧ Rising (0 :: r) ∧ (∀ x ∈ r, 0 < x ∧ x ≤ 4294967295) := by
  obtain ⟨hr, hm⟩ := cutL_spec L [0] (List.pairwise_singleton _ _)
  have hcr : ∀ l ∈ L, ∀ z, IsCut l z → 0 ≤ z ∧ z ≤ 4294967295 := by
    rintro l hl z ⟨s, hs, q1, q2⟩
    have := hL l hl s hs
    omega
  have hrng : ∀ x ∈ cutL [0] L, 0 ≤ x ∧ x ≤ 4294967295 := fun x hx => by
    rcases (hm x).1 hx with h | ⟨l, hl, hc⟩
    · rw [List.mem_singleton.1 h]; omega
    · exact hcr l hl x hc
  have h0m : (0 : Int) ∈ cutL [0] L := (hm 0).2 (.inl List.mem_cons_self)
  cases hq : cutL [0] L with
  | nil => rw [hq] at h0m; simp at h0m
  | cons n r =>
    rw [hq] at hr h0m hrng
    have hr' := List.pairwise_cons.1 hr
    have hn : n = 0 := by
      have := hrng n List.mem_cons_self
      rcases List.mem_cons.1 h0m with e | e
      · exact e.symm
      · have := hr'.1 0 e; omega
    subst hn
    have hrp : ∀ x ∈ r, 0 < x ∧ x ≤ 4294967295 := fun x hx => ⟨hr'.1 x hx, (hrng x (List.mem_cons_of_mem _ hx)).2⟩
    obtain ⟨k1, k2⟩ := kf_spec L hL r 0 hr (fun x hx => (hrp x hx).2) (fun l hl z hz => by
      have hz2 := (hm z).2 (.inr ⟨l, hl, hz⟩)
      rw [hq] at hz2
      rcases List.mem_cons.1 hz2 with e | e
      · exact .inl (by omega)
      · exact .inr e)
    refine ⟨r, rfl, ⟨k1, fun x => ?_⟩, hr, hrp⟩
    rw [k2]
    constructor
    · rintro ⟨q1, q2⟩; exact ⟨(hrp x q1).1, (hrp x q1).2, q2⟩
    · rintro ⟨q1, q2, l, hl, q3⟩
      refine ⟨?_, l, hl, q3⟩
      have hz2 := (hm x).2 (.inr ⟨l, hl, turn_cut l x (hL l hl) q1 q2 q3⟩)
      rw [hq] at hz2
      rcases List.mem_cons.1 hz2 with e | e
      · omega
      · exact e
theorem set_last (p : List S33) (x y : S33) : (p ++ [x]).set p.length y = p ++ [y] := by simp
end Go.Proofs.Ytconaifcjnpabaa.P

namespace Go.Proofs.Ytconaifcjnpabaa.P
open Go.RowKit Go.Proofs.YtconaifcjnpabaaW.PrintWords Go.Proofs.YtconaifcjnpabaaW.PrintLast Go.Proofs.YtconaifcjnpabaaW.PrintMore
attribute [local go_sem] max2_int min2_int max_two min_two max_three min_three max_four min_four
set_option linter.unusedVariables false
set_option linter.unusedSimpArgs false

/-! ### dragomanref01_In: function 17 -/
def q8z.l0 : Nat → Int → List (S33) → Int → Int → Option (Bool)
 | 0, _, _, _, _ => none
 | k + 1, x1, x7, x8, x9 => if x9 < x8 then (if 0 ≤ x9 then (if x9 < (x7.length : Int) then (if ((rd_T33 x7 x9).f0) ≤ x1 then (if x1 ≤ ((rd_T33 x7 x9).f1) then (some true) else (q8z.l0 k x1 x7 x8 (wrap64 (x9 + 1)))) else (q8z.l0 k x1 x7 x8 (wrap64 (x9 + 1)))) else (none)) else (none)) else (some false)
def q8z.f (k : Nat) (l0 : List (S33)) (a1 : Int) : Option (Bool) := q8z.l0 k a1 l0 (l0.length : Int) 0
theorem q8z.mono_l : ∀ k, (∀ y0 y1 y2 y3, LeO (q8z.l0 k y0 y1 y2 y3) (q8z.l0 (k + 1) y0 y1 y2 y3))
 | 0 => fun _ _ _ _ r h => by simp [q8z.l0] at h
 | k + 1 => by
  have ih0 := q8z.mono_l k
  ·
   intro y0 y1 y2 y3
   unfold q8z.l0
   repeat' first
   | (with_reducible exact ih0 _ _ _ _)
   | (with_reducible exact LeO.refl _)
   | (with_reducible exact LeO.none _)
   | (with_reducible refine LeO.ite ?_ ?_)
   | (with_reducible refine LeO.bind ?_ (fun _ => ?_))
   | exact ih0 _ _ _ _
   | exact LeO.none _
   | refine LeO.ite ?_ ?_
   | refine LeO.bind ?_ (fun _ => ?_)
theorem q8z.mono : ∀ a0 a1 k, LeO (q8z.f k a0 a1) (q8z.f (k + 1) a0 a1) := by
 intro a0 a1 k
 have ih0 := q8z.mono_l k
 unfold q8z.f
 repeat' first
   | (with_reducible exact ih0 _ _ _ _)
   | (with_reducible exact LeO.refl _)
   | (with_reducible exact LeO.none _)
   | (with_reducible refine LeO.ite ?_ ?_)
   | (with_reducible refine LeO.bind ?_ (fun _ => ?_))
   | exact ih0 _ _ _ _
   | exact LeO.none _
   | refine LeO.ite ?_ ?_
   | refine LeO.bind ?_ (fun _ => ?_)
set_option maxHeartbeats 8000000 in
set_option maxRecDepth 100000 in
theorem q8z.calls (k : Nat) (A0 : Option Addr) (c0 : Nat) (l0 : List (S33)) (a1 : Int) (r : Bool) (w : World) (hr0 : Kd.C k33 w A0 l0.length l0) (hc0 : l0.length ≤ c0) (h : q8z.f k l0 a1 = some r) :
  Calls Try.prog 17 #[.slice A0 l0.length c0, .int .u32 a1] w fun e w' => e = .returned (.bool r) ∧ Below w.heap.size w w' := by
 have hu33 := Try.underlying33
 have HR0 := Aside0.mk hr0
 have HC0 := Aside0.mk hc0
 clear hr0 hc0
 have HB := Aside0.mk (Below.refl w.heap.size w)
 have H : (q8z.l0 k a1 l0 (l0.length : Int) 0) = some r := h
 clear h
 have H' := Aside0.mk H
 clear H
 go_enter Try.func17, Try.ntmps17
 go_wp2
 go_loopg [9] k (fun kq v9 w' => ∃ (x9_1 : Int), v9 = .int .i64 x9_1 ∧ Aside0 (q8z.l0 kq a1 l0 (l0.length : Int) x9_1 = some r) ∧ Aside0 (kq ≤ k) ∧ Aside0 (Below w.heap.size w w'))
 case atStart => exact ⟨(0), (by first | rfl | (simp; done) | (simp [*]; done)), H', ⟨Nat.le_refl _⟩, ⟨by repeat (first | (with_reducible first | exact HB.out | apply below_alloc | apply pw_below_drewN | apply below_drew1) | exact HB.out)⟩⟩
 case round =>
  clear H'
  try clear c1
  try clear p2
  obtain ⟨x9_1, rfl, HA, HK1, HB⟩ := hrel
  cases gk with
  | zero => exact absurd HA.out (by simp [q8z.l0])
  | succ k1 =>
   have H := HA.out
   clear HA
   simp only [q8z.l0] at H
   by_cases c3 : x9_1 < (l0.length : Int)
   ·
    rw [if_pos c3] at H
    have c3b0 : decide (x9_1 < (l0.length : Int)) = true := decide_eq_true c3
    clear c3
    by_cases c4 : 0 ≤ x9_1
    ·
     rw [if_pos c4] at H
     have c4b0 : decide (0 ≤ x9_1) = true := decide_eq_true c4
     clear c4
     by_cases c5 : x9_1 < (l0.length : Int)
     ·
      rw [if_pos c5] at H
      have c5b0 : decide (x9_1 < (l0.length : Int)) = true := decide_eq_true c5
      clear c5
      by_cases c6 : ((rd_T33 l0 x9_1).f0) ≤ a1
      ·
       rw [if_pos c6] at H
       have c6b0 : decide (((rd_T33 l0 x9_1).f0) ≤ a1) = true := decide_eq_true c6
       clear c6
       by_cases c7 : a1 ≤ ((rd_T33 l0 x9_1).f1)
       ·
        rw [if_pos c7] at H
        have c7b0 : decide (a1 ≤ ((rd_T33 l0 x9_1).f1)) = true := decide_eq_true c7
        clear c7
        obtain rfl := Option.some.inj H
        have p1 : 0 ≤ (x9_1 : Int) := of_decide_eq_true (by first | (with_reducible assumption) | assumption)
        have q1 : x9_1 < (l0.length : Int) := of_decide_eq_true (by first | (with_reducible assumption) | assumption)
        obtain ⟨ad1, e1, hx1_0, hx1_1⟩ := at_T33 HR0.out x9_1 p1 q1
        cases e1
        replace hx1_0 := (HB.out.cell (World.block_lt_of_cell? w _ hx1_0)).trans hx1_0
        replace hx1_1 := (HB.out.cell (World.block_lt_of_cell? w _ hx1_1)).trans hx1_1
        replace p1 := eq_true p1
        replace q1 := eq_true q1
        go_wp2_with (first | ((with_reducible refine gate_dst (N := 6) rfl ?_); refine box_event ?hg (N := 6) ?hd (cs := #[.int .u32 0, .int .u32 0]) (t := 33) ?hr ?_; (case hd => rfl); (case hg => rfl); (case hr => first | (go_simp; done) | (go_simp; rfl)); intro gb2 hg w8 hbox hb; have n0_ := Aside0.mk (below_step (by repeat (first | (with_reducible first | exact HB.out | apply below_alloc | apply pw_below_drewN | apply below_drew1) | exact HB.out)) hb); have n1_ := Aside0.mk (hbox); have n2_ := Aside0.mk ((by rw [hg]; exact (below_size (by repeat (first | (with_reducible first | exact HB.out | apply below_alloc | apply pw_below_drewN | apply below_drew1) | exact HB.out))) : w.heap.size ≤ gb2)); have n3_ := Aside0.mk ((by rw [hg]; exact (below_size (by repeat (first | (with_reducible first | exact HB.out | apply below_alloc | apply pw_below_drewN | apply below_drew1) | exact HB.out))) : w.heap.size ≤ gb2)); clear HB; have HB := n0_; have BK2 := n1_; have GW2 := n2_; have GE2 := n3_; clear n0_ n1_ n2_ n3_; clear hb hbox hg; have hcz9_0 : w8.cell? ⟨gb2, 0, none⟩ = some (.int .u32 0) := (blk_cell BK2.out 0).trans rfl; have hcz9_1 : w8.cell? ⟨gb2, 1, none⟩ = some (.int .u32 0) := (blk_cell BK2.out 1).trans rfl; have hfz9_0 := blk_frozen BK2.out 0; have hfz9_1 := blk_frozen BK2.out 1))
        go_ret
        exact ⟨by first | rfl | (simp [errW_none, errW_some] <;> rfl) | (simp [*, errW_none, errW_some] <;> rfl), by repeat (first | (with_reducible first | exact HB.out | apply below_alloc | apply pw_below_drewN | apply below_drew1 | refine below_set ?_ GE2.out) | exact HB.out)⟩
       ·
        rw [if_neg c7] at H
        have c7b0 : decide (a1 ≤ ((rd_T33 l0 x9_1).f1)) = false := decide_eq_false c7
        clear c7
        have H' := Aside0.mk H
        clear H
        have p1 : 0 ≤ (x9_1 : Int) := of_decide_eq_true (by first | (with_reducible assumption) | assumption)
        have q1 : x9_1 < (l0.length : Int) := of_decide_eq_true (by first | (with_reducible assumption) | assumption)
        obtain ⟨ad1, e1, hx1_0, hx1_1⟩ := at_T33 HR0.out x9_1 p1 q1
        cases e1
        replace hx1_0 := (HB.out.cell (World.block_lt_of_cell? w _ hx1_0)).trans hx1_0
        replace hx1_1 := (HB.out.cell (World.block_lt_of_cell? w _ hx1_1)).trans hx1_1
        replace p1 := eq_true p1
        replace q1 := eq_true q1
        go_wp2_with (first | ((with_reducible refine gate_dst (N := 6) rfl ?_); refine box_event ?hg (N := 6) ?hd (cs := #[.int .u32 0, .int .u32 0]) (t := 33) ?hr ?_; (case hd => rfl); (case hg => rfl); (case hr => first | (go_simp; done) | (go_simp; rfl)); intro gb2 hg w10 hbox hb; have n0_ := Aside0.mk (below_step (by repeat (first | (with_reducible first | exact HB.out | apply below_alloc | apply pw_below_drewN | apply below_drew1) | exact HB.out)) hb); have n1_ := Aside0.mk (hbox); have n2_ := Aside0.mk ((by rw [hg]; exact (below_size (by repeat (first | (with_reducible first | exact HB.out | apply below_alloc | apply pw_below_drewN | apply below_drew1) | exact HB.out))) : w.heap.size ≤ gb2)); have n3_ := Aside0.mk ((by rw [hg]; exact (below_size (by repeat (first | (with_reducible first | exact HB.out | apply below_alloc | apply pw_below_drewN | apply below_drew1) | exact HB.out))) : w.heap.size ≤ gb2)); clear HB; have HB := n0_; have BK2 := n1_; have GW2 := n2_; have GE2 := n3_; clear n0_ n1_ n2_ n3_; clear hb hbox hg; have hcz11_0 : w10.cell? ⟨gb2, 0, none⟩ = some (.int .u32 0) := (blk_cell BK2.out 0).trans rfl; have hcz11_1 : w10.cell? ⟨gb2, 1, none⟩ = some (.int .u32 0) := (blk_cell BK2.out 1).trans rfl; have hfz11_0 := blk_frozen BK2.out 0; have hfz11_1 := blk_frozen BK2.out 1))
        go_roundg k1
        case measure => have := HK1.out; omega
        case rel => exact ⟨(wrap64 (x9_1 + 1)), (by first | rfl | (simp; done) | (simp [*]; done)), H', ⟨by have := HK1.out; omega⟩, ⟨by repeat (first | (with_reducible first | exact HB.out | apply below_alloc | apply pw_below_drewN | apply below_drew1 | refine below_set ?_ GE2.out) | exact HB.out)⟩⟩
      ·
       rw [if_neg c6] at H
       have c6b0 : decide (((rd_T33 l0 x9_1).f0) ≤ a1) = false := decide_eq_false c6
       clear c6
       have H' := Aside0.mk H
       clear H
       have p1 : 0 ≤ (x9_1 : Int) := of_decide_eq_true (by first | (with_reducible assumption) | assumption)
       have q1 : x9_1 < (l0.length : Int) := of_decide_eq_true (by first | (with_reducible assumption) | assumption)
       obtain ⟨ad1, e1, hx1_0, hx1_1⟩ := at_T33 HR0.out x9_1 p1 q1
       cases e1
       replace hx1_0 := (HB.out.cell (World.block_lt_of_cell? w _ hx1_0)).trans hx1_0
       replace hx1_1 := (HB.out.cell (World.block_lt_of_cell? w _ hx1_1)).trans hx1_1
       replace p1 := eq_true p1
       replace q1 := eq_true q1
       go_wp2_with (first | ((with_reducible refine gate_dst (N := 6) rfl ?_); refine box_event ?hg (N := 6) ?hd (cs := #[.int .u32 0, .int .u32 0]) (t := 33) ?hr ?_; (case hd => rfl); (case hg => rfl); (case hr => first | (go_simp; done) | (go_simp; rfl)); intro gb2 hg w12 hbox hb; have n0_ := Aside0.mk (below_step (by repeat (first | (with_reducible first | exact HB.out | apply below_alloc | apply pw_below_drewN | apply below_drew1) | exact HB.out)) hb); have n1_ := Aside0.mk (hbox); have n2_ := Aside0.mk ((by rw [hg]; exact (below_size (by repeat (first | (with_reducible first | exact HB.out | apply below_alloc | apply pw_below_drewN | apply below_drew1) | exact HB.out))) : w.heap.size ≤ gb2)); have n3_ := Aside0.mk ((by rw [hg]; exact (below_size (by repeat (first | (with_reducible first | exact HB.out | apply below_alloc | apply pw_below_drewN | apply below_drew1) | exact HB.out))) : w.heap.size ≤ gb2)); clear HB; have HB := n0_; have BK2 := n1_; have GW2 := n2_; have GE2 := n3_; clear n0_ n1_ n2_ n3_; clear hb hbox hg; have hcz13_0 : w12.cell? ⟨gb2, 0, none⟩ = some (.int .u32 0) := (blk_cell BK2.out 0).trans rfl; have hcz13_1 : w12.cell? ⟨gb2, 1, none⟩ = some (.int .u32 0) := (blk_cell BK2.out 1).trans rfl; have hfz13_0 := blk_frozen BK2.out 0; have hfz13_1 := blk_frozen BK2.out 1))
       go_roundg k1
       case measure => have := HK1.out; omega
       case rel => exact ⟨(wrap64 (x9_1 + 1)), (by first | rfl | (simp; done) | (simp [*]; done)), H', ⟨by have := HK1.out; omega⟩, ⟨by repeat (first | (with_reducible first | exact HB.out | apply below_alloc | apply pw_below_drewN | apply below_drew1 | refine below_set ?_ GE2.out) | exact HB.out)⟩⟩
     ·
      rw [if_neg c5] at H
      exact absurd H (by simp)
    ·
     rw [if_neg c4] at H
     exact absurd H (by simp)
   ·
    rw [if_neg c3] at H
    have c3b0 : decide (x9_1 < (l0.length : Int)) = false := decide_eq_false c3
    clear c3
    obtain rfl := Option.some.inj H
    go_wp2
    go_ret
    exact ⟨by first | rfl | (simp [errW_none, errW_some] <;> rfl) | (simp [*, errW_none, errW_some] <;> rfl), by repeat (first | (with_reducible first | exact HB.out | apply below_alloc | apply pw_below_drewN | apply below_drew1) | exact HB.out)⟩

end Go.Proofs.Ytconaifcjnpabaa.P

namespace Go.Proofs.Ytconaifcjnpabaa.P
open Go.RowKit Go.Proofs.YtconaifcjnpabaaW.PrintWords Go.Proofs.YtconaifcjnpabaaW.PrintLast Go.Proofs.YtconaifcjnpabaaW.PrintMore
attribute [local go_sem] max2_int min2_int max_two min_two max_three min_three max_four min_four
set_option linter.unusedVariables false
set_option linter.unusedSimpArgs false

/-! ### dragomanref01_Copy: function 13 -/
def q9z.f (l0 : List (S33)) : Option ((List (S33))) := (some (([] : List (S33)) : List (S33))).bind fun y1 => (if y1.length + l0.length < 17592186044416 then (some (y1 ++ l0)) else (none))
set_option maxHeartbeats 8000000 in
set_option maxRecDepth 100000 in
theorem q9z.calls (A0 : Option Addr) (c0 : Nat) (l0 : List (S33)) (r : List (S33)) (w : World) (hr0 : Kd.C k33 w A0 l0.length l0) (hc0 : l0.length ≤ c0) (h : q9z.f l0 = some r) :
  Calls Try.prog 13 #[.slice A0 l0.length c0] w fun e w' => ∃ v0_ : Value, e = .returned (v0_) ∧ Kd.R k33 33 w' w.heap.size (fun _ => True) v0_ r ∧ Below w.heap.size w w' := by
 have HR0 := Aside0.mk hr0
 have HC0 := Aside0.mk hc0
 clear hr0 hc0
 have HB := Aside0.mk (Below.refl w.heap.size w)
 have H : ((some (([] : List (S33)) : List (S33))).bind fun y1 => (if y1.length + l0.length < 17592186044416 then (some (y1 ++ l0)) else (none))) = some r := h
 clear h
 obtain ⟨y1, hy1⟩ : ∃ y_ : List (S33), y_ = (([] : List (S33))) := ⟨_, rfl⟩
 replace H : (if y1.length + l0.length < 17592186044416 then (some (y1 ++ l0)) else (none)) = some r := by first | (rw [hy1]; with_reducible exact H) | (have H2_ := (Option.bind_some _ _).symm.trans H; rw [hy1]; with_reducible exact H2_) | (have H2_ := (Option.bind_some _ _).symm.trans H; with_reducible exact H2_) | with_reducible exact H | (rw [hy1]; exact H) | exact H
 have Ny1 := Aside0.mk hy1
 clear hy1
 by_cases c2 : y1.length + l0.length < 17592186044416
 ·
  rw [if_pos c2] at H
  have LMc2 := Aside0.mk c2
  clear c2
  obtain ⟨y4, hy4⟩ : ∃ y_ : List (S33), y_ = (y1 ++ l0) := ⟨_, rfl⟩
  replace H : (some y4) = some r := by first | (rw [hy4]; with_reducible exact H) | (have H2_ := (Option.bind_some _ _).symm.trans H; rw [hy4]; with_reducible exact H2_) | (have H2_ := (Option.bind_some _ _).symm.trans H; with_reducible exact H2_) | with_reducible exact H | (rw [hy4]; exact H) | exact H
  have Ny4 := Aside0.mk hy4
  clear hy4
  obtain rfl := Option.some.inj H
  go_enter Try.func13, Try.ntmps13
  go_wp2_with (first | ((with_reducible refine gate_dst (N := 3) rfl ?_); refine Kd.R_lit k33 _ 33 ?hg (N := 3) ?hd (xs := ([] : List (S33))) (inner := []) (ok := fun _ => True) (okp := fun _ => True) ?hr ?hp (fun _ hk => hk) trivial (Below.refl _ _) (Nat.le_refl _) (by simp) ?_; (case hd => rfl); (case hg => rfl); (case hr => first | (go_simp; done) | (go_simp; rfl)); (case hp => exact (Reps.none _ _)); intro v2 w3 ho4 hb hg_ hnew_; clear hg_ hnew_; (first | rw [← Ny1.out] at ho4 | (simp only [Int.reduceToNat] at ho4; rw [← Ny1.out] at ho4)); have n0_ := Aside0.mk (Kd.R_lower ho4 (below_size (by repeat (first | (with_reducible first | exact HB.out | apply below_alloc | apply pw_below_drewN | apply below_drew1) | exact HB.out)))); have n1_ := Aside0.mk (below_step (by repeat (first | (with_reducible first | exact HB.out | apply below_alloc | apply pw_below_drewN | apply below_drew1) | exact HB.out)) hb); clear HB; have HO3 := n0_; have HB := n1_; clear n0_ n1_; clear hb ho4) | ((with_reducible refine gate_builtin (b := .append) (xs := #[.tmp 3, .tmp 4]) rfl ?_); at_builtin; refine Kd.R_append_rows k33 (w0 := w) w.heap.size rfl (.tmp 3) (.tmp 4) 24 33 (.agg #[(.int .u32 0), (.int .u32 0)]) 8 rfl Try.underlying24 info33 rfl (by decide) (by omega) v2 y1 l0 _ _ _ (fun _ => True) (fun _ => False) rfl rfl ?aO ?aR (fun _ _ h => h) (fun _ h => h.elim) ?aF ?aB ?aS ?aL ?_; (case aR => repeat (first | exact (Kd.C_below HR0.out HB.out) | (with_reducible refine Kd.C_alloc ?_ _) | (with_reducible refine Kd.C_drewN ?_ _) | (with_reducible refine Kd.C_drew ?_))); (case aB => exact (by repeat (first | (with_reducible first | exact HB.out | apply below_alloc | apply pw_below_drewN | apply below_drew1) | exact HB.out))); (case aF => exact (fun _ _ => trivial)); (case aO => exact (by (with_reducible repeat (first | apply Kd.R_alloc | apply Kd.R_drewN | apply Kd.R_drew)); exact HO3.out)); (case aS => exact (below_size (by repeat (first | (with_reducible first | exact HB.out | apply below_alloc | apply pw_below_drewN | apply below_drew1) | exact HB.out)))); (case aL => have := LMc2.out; omega); intro v5 w5 ho hb hg hat; rw [← Ny4.out] at ho; have n0_ := Aside0.mk (hb); have n1_ := Aside0.mk (ho); clear HB; clear HO3; have HB := n0_; have HO6 := n1_; clear n0_ n1_; clear ho hb hg hat))
  go_ret
  exact ⟨_, by first | rfl | (simp [errW_none, errW_some] <;> rfl) | (simp [*, errW_none, errW_some] <;> rfl), by (with_reducible repeat (first | apply Kd.R_alloc | apply Kd.R_drewN | apply Kd.R_drew)); exact HO6.out, by repeat (first | (with_reducible first | exact HB.out | apply below_alloc | apply pw_below_drewN | apply below_drew1) | exact HB.out)⟩
 ·
  rw [if_neg c2] at H
  exact absurd H (by simp)

end Go.Proofs.Ytconaifcjnpabaa.P

namespace Go.Proofs.Ytconaifcjnpabaa.P
open Go.RowKit Go.Proofs.YtconaifcjnpabaaW.PrintWords Go.Proofs.YtconaifcjnpabaaW.PrintMore
set_option linter.unusedVariables false
set_option linter.unusedSimpArgs false
theorem wr (i : Int) (h0 : -9223372036854775808 ≤ i) (h1 : i ≤ 9223372036854775807) : wrap64 i = i := by unfold wrap64; omega
theorem wr1 (i : Nat) (h : i < 1000000000) : wrap64 ((i : Int) + 1) = ((i + 1 : Nat) : Int) := by rw [wr _ (by omega) (by omega)]; omega
theorem rdS (l : List S33) (i : Nat) (h : i < l.length) : rd_T33 l (i : Int) = l[i] := by
  unfold rd_T33
  rw [Int.toNat_natCast, List.getD_eq_getElem?_getD, List.getElem?_eq_getElem h]
  rfl
theorem rdI (l : List Int) (i : Nat) (h : i < l.length) : rd l (i : Int) = l[i] := by
  unfold rd
  rw [Int.toNat_natCast, List.getD_eq_getElem?_getD, List.getElem?_eq_getElem h]
  rfl
theorem S33_eta (s : S33) : (⟨s.f0, s.f1⟩ : S33) = s := rfl
def okB (s : S33) : Bool := decide (s.f0 ≤ s.f1)

theorem norm_l1 (t : List S33) (ht : t.length ≤ 1000000) (htr : Rng t) : ∀ (d i : Nat) (out : List S33), i + d = t.length → out.length + d ≤ 1000000 → (∀ s ∈ out, 0 ≤ s.f1 ∧ s.f1 ≤ 4294967295) →
    Ev (fun k => q2z.l1 k out t (t.length : Int) (i : Int)) (mergeAll out (t.drop i))
  | 0, i, out, hi, _, _ => by
    refine Ev.step (f := fun _ => some out) (fun k => ?_) ?_
    · simp only [q2z.l1]
      rw [if_neg (by omega)]
    · rw [List.drop_eq_nil_of_le (by omega)]
      exact Ev.now out
  | d + 1, i, out, hi, ho, hr => by
    have hil : i < t.length := by omega
    rw [List.drop_eq_getElem_cons hil]
    have hs := htr t[i] (List.getElem_mem hil)
    generalize hq : t[i] = s at hs
    have hrd : rd_T33 t (i : Int) = s := by rw [rdS t i hil, hq]
    have hlen : ∀ o : List S33, o.length ≤ out.length + 1 → o.length + d ≤ 1000000 := fun o h => by omega
    rw [mergeAll]
    rcases List.eq_nil_or_concat out with rfl | ⟨p, x, rfl⟩
    · rw [mergeStep_nil]
      refine Ev.step (fun k => ?_) (norm_l1 t ht htr d (i + 1) [s] (by omega) (by simp; omega) (fun z hz => by rw [List.mem_singleton.1 hz]; omega))
      simp only [q2z.l1]
      rw [if_pos (by omega), if_pos (by omega), if_pos (by omega), if_neg (by simp), if_pos (by simp), hrd, wr1 i (by omega)]
      rfl
    · simp only [List.concat_eq_append] at *
      have hx := hr x (by simp)
      have hpl : (p ++ [x]).length = p.length + 1 := by simp
      have hl1 : wrap64 (((p ++ [x]).length : Int) - 1) = (p.length : Int) := by
        rw [List.length_append, List.length_singleton, wr _ (by omega) (by omega)]; omega
      have hrx : rd_T33 (p ++ [x]) (p.length : Int) = x := by rw [rdS _ _ (by simp)]; simp
      have hset : ∀ y : S33, (p ++ [x]).set (p.length : Int).toNat y = p ++ [y] := fun y => by rw [Int.toNat_natCast]; simp
      have hlp : ((p ++ [x]).length : Int) > 0 := by rw [List.length_append, List.length_singleton]; omega
      have hlq : (p.length : Int) < ((p ++ [x]).length : Int) := by rw [List.length_append, List.length_singleton]; omega
      have hmx : 0 ≤ mx x.f1 s.f1 ∧ mx x.f1 s.f1 ≤ 4294967295 := by unfold mx; split <;> omega
      rw [mergeStep_snoc]
      by_cases hM : x.f1 = 4294967295
      · rw [if_pos (.inl hM)]
        refine Ev.step (fun k => ?_) (norm_l1 t ht htr d (i + 1) (p ++ [⟨x.f0, mx x.f1 s.f1⟩]) (by omega) (hlen _ (by simp)) (fun z hz => ?_))
        · simp only [q2z.l1]
          rw [if_pos (by omega), if_pos (by omega), if_pos (by omega), if_pos hlp, hl1, if_pos (by omega), if_pos hlq, hrx, if_pos hM, hset, hrd, wr1 i (by omega)]
        · rcases List.mem_append.1 hz with hz | hz
          · exact hr z (List.mem_append_left _ hz)
          · rw [List.mem_singleton.1 hz]; exact hmx
      · have hmod : (x.f1 + 1) % 4294967296 = x.f1 + 1 := by omega
        by_cases hc : s.f0 ≤ x.f1 + 1
        · rw [if_pos (.inr hc)]
          refine Ev.step (fun k => ?_) (norm_l1 t ht htr d (i + 1) (p ++ [⟨x.f0, mx x.f1 s.f1⟩]) (by omega) (hlen _ (by simp)) (fun z hz => ?_))
          · simp only [q2z.l1]
            rw [if_pos (by omega), if_pos (by omega), if_pos (by omega), if_pos hlp, hl1, if_pos (by omega), if_pos hlq, hrx, if_neg hM, hmod, hrd, if_pos hc, hset, wr1 i (by omega)]
          · rcases List.mem_append.1 hz with hz | hz
            · exact hr z (List.mem_append_left _ hz)
            · rw [List.mem_singleton.1 hz]; exact hmx
        · rw [if_neg (by rw [not_or]; exact ⟨hM, hc⟩)]
          refine Ev.step (fun k => ?_) (norm_l1 t ht htr d (i + 1) ((p ++ [x]) ++ [s]) (by omega) (hlen _ (by simp)) (fun z hz => ?_))
          · simp only [q2z.l1]
            rw [if_pos (by omega), if_pos (by omega), if_pos (by omega), if_pos hlp, hl1, if_pos (by omega), if_pos hlq, hrx, if_neg hM, hmod, hrd, if_neg hc, if_pos (by have := hlen (p ++ [x]) (by omega); omega), wr1 i (by omega)]
          · rcases List.mem_append.1 hz with hz | hz
            · exact hr z hz
            · rw [List.mem_singleton.1 hz]; omega

theorem norm_l0 (l : List S33) (hl : l.length ≤ 1000000) (r : List S33) : ∀ (d i : Nat) (acc : List S33), i + d = l.length → acc.length ≤ i →
    Ev (fun k => (SortFunc_Span.f (acc ++ (l.drop i).filter okB)).bind fun t => q2z.l1 k [] t ((acc ++ (l.drop i).filter okB).length : Int) 0) r →
    Ev (fun k => q2z.l0 k acc l (l.length : Int) (i : Int)) r
  | 0, i, acc, hi, _, h => by
    refine Ev.step (fun k => ?_) h
    simp only [q2z.l0]
    rw [if_neg (by omega), List.drop_eq_nil_of_le (by omega), List.filter_nil, List.append_nil]
  | d + 1, i, acc, hi, ha, h => by
    have hil : i < l.length := by omega
    rw [List.drop_eq_getElem_cons hil] at h
    have hrd : rd_T33 l (i : Int) = l[i] := rdS l i hil
    by_cases hc : l[i].f0 ≤ l[i].f1
    · rw [List.filter_cons_of_pos (by simpa [okB] using hc)] at h
      refine Ev.step (fun k => ?_) (norm_l0 l hl r d (i + 1) (acc ++ [l[i]]) (by omega) (by simp; omega) (by rw [List.append_assoc, List.singleton_append]; exact h))
      simp only [q2z.l0]
      rw [if_pos (by omega), if_pos (by omega), if_pos (by omega), hrd, if_pos hc, if_pos (by omega), wr1 i (by omega)]
    · rw [List.filter_cons_of_neg (by simpa [okB] using hc)] at h
      refine Ev.step (fun k => ?_) (norm_l0 l hl r d (i + 1) acc (by omega) (by omega) h)
      simp only [q2z.l0]
      rw [if_pos (by omega), if_pos (by omega), if_pos (by omega), hrd, if_neg hc, wr1 i (by omega)]

theorem InS_perm {a b : List S33} (h : a.Perm b) (n : Int) : InS a n = InS b n := by
  rw [Bool.eq_iff_iff, InS_iff, InS_iff]
  exact ⟨fun ⟨s, hs, q⟩ => ⟨s, h.mem_iff.1 hs, q⟩, fun ⟨s, hs, q⟩ => ⟨s, h.mem_iff.2 hs, q⟩⟩
theorem InS_filter (l : List S33) (n : Int) : InS (l.filter okB) n = InS l n := by
  rw [Bool.eq_iff_iff, InS_iff, InS_iff]
  refine ⟨fun ⟨s, hs, q⟩ => ⟨s, (List.mem_filter.1 hs).1, q⟩, fun ⟨s, hs, q⟩ => ⟨s, List.mem_filter.2 ⟨hs, by simp [okB]; omega⟩, q⟩⟩
theorem mergeStep_length (out : List S33) (s : S33) : (mergeStep out s).length ≤ out.length + 1 := by
  rcases List.eq_nil_or_concat out with rfl | ⟨p, x, rfl⟩
  · simp [mergeStep]
  · rw [List.concat_eq_append, mergeStep_snoc]
    split <;> simp
theorem mergeAll_length : ∀ (t out : List S33), (mergeAll out t).length ≤ out.length + t.length
  | [], out => by simp [mergeAll]
  | s :: r, out => by
    have h1 := mergeAll_length r (mergeStep out s)
    have h2 := mergeStep_length out s
    rw [mergeAll, List.length_cons]
    omega

/-- span.Norm: the set's one form. -/
theorem norm_ev (l : List S33) (hl : l.length ≤ 1000000) (hr : Rng l) : ∃ r, Ev (fun k => q2z.f k l) r ∧ NF r ∧ (∀ n, InS r n = InS l n) ∧ r.length ≤ l.length := by
  have hfl : (l.filter okB).length ≤ l.length := List.length_filter_le _ _
  obtain ⟨t, ht, hp, hs⟩ := sortFunc_Span_sorts (l.filter okB) (by omega)
  have htl : t.length = (l.filter okB).length := hp.length_eq
  have hmem : ∀ s ∈ t, s ∈ l ∧ s.f0 ≤ s.f1 := fun s hs => by
    have := List.mem_filter.1 (hp.mem_iff.1 hs)
    exact ⟨this.1, by simpa [okB] using this.2⟩
  have hok : ∀ s ∈ t, Ok s := fun s hs => by
    have h1 := hmem s hs
    have h2 := hr s h1.1
    unfold Ok
    omega
  obtain ⟨h1, h2⟩ := mergeAll_nf t [] NF_nil hok hs (fun x hx => (List.not_mem_nil hx).elim)
  refine ⟨mergeAll [] t, ?_, h1, fun n => ?_, ?_⟩
  · have h3 := norm_l1 t (by omega) (fun s hs => hr s (hmem s hs).1) t.length 0 [] (by omega) (by simp; omega) (fun s hs => (List.not_mem_nil hs).elim)
    refine Ev.congr (fun k => rfl) (norm_l0 l hl _ l.length 0 [] (by omega) (Nat.zero_le _) ?_)
    simp only [List.nil_append, List.drop_zero, ht, Option.bind_some]
    rw [← htl]
    exact h3
  · rw [h2, InS_nil, Bool.false_or, InS_perm hp, InS_filter]
  · have := mergeAll_length t []
    simp only [List.length_nil] at this
    omega

theorem not_l0 (t : List S33) (ht : t.length ≤ 1000000) (hn : NF t) : ∀ (d i : Nat) (acc : List S33) (f : Int), i + d = t.length → acc.length ≤ i → 0 ≤ f → f ≤ 4294967295 → (∀ s ∈ t.drop i, f ≤ s.f0) →
    Ev (fun k => q5z.l0 k acc f t (t.length : Int) (i : Int)) (acc ++ notL f (t.drop i))
  | 0, i, acc, f, hi, ha, _, _, _ => by
    refine Ev.step (f := fun _ => some (acc ++ [(⟨f, 4294967295⟩ : S33)])) (fun k => ?_) ?_
    · simp only [q5z.l0]
      rw [if_neg (by omega), if_pos (by omega)]
    · rw [List.drop_eq_nil_of_le (by omega)]
      exact Ev.now _
  | d + 1, i, acc, f, hi, ha, hf0, hf1, hf => by
    have hil : i < t.length := by omega
    rw [List.drop_eq_getElem_cons hil] at hf ⊢
    have hs : Ok t[i] := hn.1 _ (List.getElem_mem hil)
    have hrd : rd_T33 t (i : Int) = t[i] := rdS t i hil
    have hfi := hf t[i] List.mem_cons_self
    have hgap : ∀ s ∈ t.drop (i + 1), t[i].f1 + 1 ≤ s.f0 := fun s hs => by
      have h1 := hn.2
      rw [← List.take_append_drop i t, List.pairwise_append] at h1
      have h2 := h1.2.1
      rw [List.drop_eq_getElem_cons hil, List.pairwise_cons] at h2
      have := h2.1 s hs
      omega
    generalize t[i] = s at hs hrd hfi hgap
    unfold Ok at hs
    by_cases hg : s.f0 > f
    · have hm1 : (s.f0 - 1) % 4294967296 = s.f0 - 1 := by omega
      by_cases hM : s.f1 = 4294967295
      · simp only [notL, if_pos hg, if_pos hM, List.append_nil]
        refine Ev.step (f := fun _ => some (acc ++ [(⟨f, s.f0 - 1⟩ : S33)])) (fun k => ?_) (Ev.now _)
        simp only [q5z.l0]
        rw [if_pos (by omega), if_pos (by omega), if_pos (by omega), hrd, if_pos hg, if_pos (by omega), Option.bind_some, if_pos hM, hm1]
      · have hm2 : (s.f1 + 1) % 4294967296 = s.f1 + 1 := by omega
        simp only [notL, if_pos hg, if_neg hM]
        rw [← List.append_assoc]
        refine Ev.step (fun k => ?_) (not_l0 t ht hn d (i + 1) (acc ++ [(⟨f, s.f0 - 1⟩ : S33)]) (s.f1 + 1) (by omega) (by simp; omega) (by omega) (by omega) hgap)
        simp only [q5z.l0]
        rw [if_pos (by omega), if_pos (by omega), if_pos (by omega), hrd, if_pos hg, if_pos (by omega), Option.bind_some, if_neg hM, hm1, hm2, wr1 i (by omega)]
    · by_cases hM : s.f1 = 4294967295
      · simp only [notL, if_neg hg, if_pos hM, List.append_nil, List.nil_append]
        refine Ev.step (f := fun _ => some acc) (fun k => ?_) (Ev.now _)
        simp only [q5z.l0]
        rw [if_pos (by omega), if_pos (by omega), if_pos (by omega), hrd, if_neg hg, if_pos hM]
      · have hm2 : (s.f1 + 1) % 4294967296 = s.f1 + 1 := by omega
        simp only [notL, if_neg hg, if_neg hM, List.nil_append]
        refine Ev.step (fun k => ?_) (not_l0 t ht hn d (i + 1) acc (s.f1 + 1) (by omega) (by omega) (by omega) (by omega) hgap)
        simp only [q5z.l0]
        rw [if_pos (by omega), if_pos (by omega), if_pos (by omega), hrd, if_neg hg, if_neg hM, hm2, wr1 i (by omega)]
theorem notL_length : ∀ (l : List S33) (f : Int), (notL f l).length ≤ l.length + 1
  | [], f => by simp [notL]
  | s :: r, f => by
    have := notL_length r (s.f1 + 1)
    simp only [notL, List.length_append, List.length_cons]
    split <;> split <;> simp <;> omega
/-- span.Not: what is in none. -/
theorem not_ev (l : List S33) (hl : l.length ≤ 1000000) (hr : Rng l) : ∃ r, Ev (fun k => q5z.f k l) r ∧ NF r ∧ (∀ n, InS r n = (decide (0 ≤ n) && decide (n ≤ 4294967295) && !InS l n)) ∧ r.length ≤ l.length + 1 := by
  obtain ⟨t, h1, h2, h3, h4⟩ := norm_ev l hl hr
  obtain ⟨h5, _, h6⟩ := notL_nf t 0 (Int.le_refl _) (by decide) h2 (fun s hs => (h2.1 s hs).1)
  refine ⟨notL 0 t, ?_, h5, fun n => by rw [h6, h3], Nat.le_trans (notL_length t 0) (by omega)⟩
  refine Ev.bind h1 (f := fun k t => q5z.l0 k [] 0 t (t.length : Int) 0) ?_
  exact not_l0 t (by omega) h2 t.length 0 [] 0 (by omega) (Nat.zero_le _) (Int.le_refl _) (by decide) (fun s hs => (h2.1 s (List.drop_subset _ _ hs)).1)

theorem refIn_l0 (n : Int) (l : List S33) (hl : l.length ≤ 1000000) : ∀ (d i : Nat), i + d = l.length → Ev (fun k => q8z.l0 k n l (l.length : Int) (i : Int)) (InS (l.drop i) n)
  | 0, i, hi => by
    refine Ev.step (f := fun _ => some false) (fun k => ?_) ?_
    · simp only [q8z.l0]
      rw [if_neg (by omega)]
    · rw [List.drop_eq_nil_of_le (by omega)]
      exact Ev.now _
  | d + 1, i, hi => by
    have hil : i < l.length := by omega
    rw [List.drop_eq_getElem_cons hil, InS_cons]
    have hrd : rd_T33 l (i : Int) = l[i] := rdS l i hil
    have ih := refIn_l0 n l hl d (i + 1) (by omega)
    by_cases h1 : l[i].f0 ≤ n
    · by_cases h2 : n ≤ l[i].f1
      · have e : (inSpan n l[i] || InS (l.drop (i + 1)) n) = true := by simp [inSpan, h1, h2]
        rw [e]
        refine Ev.step (f := fun _ => some true) (fun k => ?_) (Ev.now _)
        simp only [q8z.l0]
        rw [if_pos (by omega), if_pos (by omega), if_pos (by omega), hrd, if_pos h1, if_pos h2]
      · have e : (inSpan n l[i] || InS (l.drop (i + 1)) n) = InS (l.drop (i + 1)) n := by simp [inSpan, h2]
        rw [e]
        refine Ev.step (fun k => ?_) ih
        simp only [q8z.l0]
        rw [if_pos (by omega), if_pos (by omega), if_pos (by omega), hrd, if_pos h1, if_neg h2, wr1 i (by omega)]
    · have e : (inSpan n l[i] || InS (l.drop (i + 1)) n) = InS (l.drop (i + 1)) n := by simp [inSpan, h1]
      rw [e]
      refine Ev.step (fun k => ?_) ih
      simp only [q8z.l0]
      rw [if_pos (by omega), if_pos (by omega), if_pos (by omega), hrd, if_neg h1, wr1 i (by omega)]
theorem refIn_ev (l : List S33) (n : Int) (hl : l.length ≤ 1000000) : Ev (fun k => q8z.f k l n) (InS l n) := refIn_l0 n l hl l.length 0 (by omega)
theorem in_f (l : List S33) (n : Int) (hl : l.length ≤ 1000000) : span_In.f l n = some (InS l n) := if_pos (by omega)
theorem copy_f (l : List S33) (hl : l.length ≤ 1000000) : q9z.f l = some l := by
  unfold q9z.f
  rw [Option.bind_some, if_pos (by simp; omega), List.nil_append]
theorem same_l0 (a : List S33) (hl : a.length ≤ 1000000) : ∀ (d i : Nat), i + d = a.length → Ev (fun k => q1z.l0 k a a (a.length : Int) (i : Int)) true
  | 0, i, hi => by
    refine Ev.step (f := fun _ => some true) (fun k => ?_) (Ev.now _)
    simp only [q1z.l0]
    rw [if_neg (by omega)]
  | d + 1, i, hi => by
    refine Ev.step (fun k => ?_) (same_l0 a hl d (i + 1) (by omega))
    simp only [q1z.l0]
    rw [if_pos (by omega), if_pos (by omega), if_pos (by omega), if_pos (by omega), if_neg (by simp), wr1 i (by omega)]
theorem same_ev (a : List S33) (hl : a.length ≤ 1000000) : Ev (fun k => q1z.f k a a) true := by
  refine Ev.congr (fun k => ?_) (same_l0 a hl a.length 0 (by omega))
  unfold q1z.f
  rw [if_pos rfl]
  rfl
end Go.Proofs.Ytconaifcjnpabaa.P

namespace Go.Proofs.Ytconaifcjnpabaa.P
open Go.RowKit Go.Proofs.YtconaifcjnpabaaW.PrintWords Go.Proofs.YtconaifcjnpabaaW.PrintLast Go.Proofs.YtconaifcjnpabaaW.PrintMore
attribute [local go_sem] max2_int min2_int max_two min_two max_three min_three max_four min_four
set_option linter.unusedVariables false
set_option linter.unusedSimpArgs false

/-! ### dragomanref01_with: function 35 -/
mutual
def q10z.j1 : Nat → List Int → Int → Int → Option (List Int)
 | 0, _, _, _ => none
 | k + 1, x0, x1, x5 => if x5 < (x0.length : Int) then (if 0 ≤ x5 then (q10z.j2 k x0 x1 x5 ((rd x0 x5) == x1)) else (none)) else (q10z.j2 k x0 x1 x5 false)
def q10z.j2 : Nat → List Int → Int → Int → Bool → Option (List Int)
 | 0, _, _, _, _ => none
 | k + 1, x0, x1, x5, x32 => if x32 = true then (some x0) else (if x0.length < 35184372088832 then ((some (x0 ++ [0] : List Int)).bind fun y3 => (q10z.l1 k y3 x1 x5 (wrap64 ((y3.length : Int) - 1)))) else (none))
def q10z.l1 : Nat → List Int → Int → Int → Int → Option (List Int)
 | 0, _, _, _, _ => none
 | k + 1, x0, x1, x5, x6 => if x6 > x5 then (if 0 ≤ (wrap64 (x6 - 1)) then (if (wrap64 (x6 - 1)) < (x0.length : Int) then (if 0 ≤ x6 then (if x6 < (x0.length : Int) then (q10z.l1 k (x0.set (x6 : Int).toNat (rd x0 (wrap64 (x6 - 1)))) x1 x5 (wrap64 (x6 - 1))) else (none)) else (none)) else (none)) else (none)) else (if 0 ≤ x5 then (if x5 < (x0.length : Int) then (some (x0.set (x5 : Int).toNat x1)) else (none)) else (none))
def q10z.l0 : Nat → List Int → Int → Int → Option (List Int)
 | 0, _, _, _ => none
 | k + 1, x0, x1, x5 => if x5 < (x0.length : Int) then (if 0 ≤ x5 then (if (rd x0 x5) < x1 then (q10z.l0 k x0 x1 (wrap64 (x5 + 1))) else (q10z.j1 k x0 x1 x5)) else (none)) else (q10z.j1 k x0 x1 x5)
end
def q10z.f (k : Nat) (l0 : List Int) (a1 : Int) : Option (List Int) := q10z.l0 k l0 a1 0
theorem q10z.mono_l : ∀ k, (∀ y0 y1 y2, LeO (q10z.j1 k y0 y1 y2) (q10z.j1 (k + 1) y0 y1 y2)) ∧ (∀ y0 y1 y2 y3, LeO (q10z.j2 k y0 y1 y2 y3) (q10z.j2 (k + 1) y0 y1 y2 y3)) ∧ (∀ y0 y1 y2 y3, LeO (q10z.l1 k y0 y1 y2 y3) (q10z.l1 (k + 1) y0 y1 y2 y3)) ∧ (∀ y0 y1 y2, LeO (q10z.l0 k y0 y1 y2) (q10z.l0 (k + 1) y0 y1 y2))
 | 0 => ⟨fun _ _ _ r h => by simp [q10z.j1] at h, fun _ _ _ _ r h => by simp [q10z.j2] at h, fun _ _ _ _ r h => by simp [q10z.l1] at h, fun _ _ _ r h => by simp [q10z.l0] at h⟩
 | k + 1 => by
  obtain ⟨ih0, ih1, ih2, ih3⟩ := q10z.mono_l k
  refine ⟨?_, ?_, ?_, ?_⟩
  ·
   intro y0 y1 y2
   unfold q10z.j1
   repeat' first
   | (with_reducible exact ih0 _ _ _)
   | (with_reducible exact ih1 _ _ _ _)
   | (with_reducible exact ih2 _ _ _ _)
   | (with_reducible exact ih3 _ _ _)
   | (with_reducible exact LeO.refl _)
   | (with_reducible exact LeO.none _)
   | (with_reducible refine LeO.ite ?_ ?_)
   | (with_reducible refine LeO.bind ?_ (fun _ => ?_))
   | exact ih0 _ _ _
   | exact ih1 _ _ _ _
   | exact ih2 _ _ _ _
   | exact ih3 _ _ _
   | exact LeO.none _
   | refine LeO.ite ?_ ?_
   | refine LeO.bind ?_ (fun _ => ?_)
  ·
   intro y0 y1 y2 y3
   unfold q10z.j2
   repeat' first
   | (with_reducible exact ih0 _ _ _)
   | (with_reducible exact ih1 _ _ _ _)
   | (with_reducible exact ih2 _ _ _ _)
   | (with_reducible exact ih3 _ _ _)
   | (with_reducible exact LeO.refl _)
   | (with_reducible exact LeO.none _)
   | (with_reducible refine LeO.ite ?_ ?_)
   | (with_reducible refine LeO.bind ?_ (fun _ => ?_))
   | exact ih0 _ _ _
   | exact ih1 _ _ _ _
   | exact ih2 _ _ _ _
   | exact ih3 _ _ _
   | exact LeO.none _
   | refine LeO.ite ?_ ?_
   | refine LeO.bind ?_ (fun _ => ?_)
  ·
   intro y0 y1 y2 y3
   unfold q10z.l1
   repeat' first
   | (with_reducible exact ih0 _ _ _)
   | (with_reducible exact ih1 _ _ _ _)
   | (with_reducible exact ih2 _ _ _ _)
   | (with_reducible exact ih3 _ _ _)
   | (with_reducible exact LeO.refl _)
   | (with_reducible exact LeO.none _)
   | (with_reducible refine LeO.ite ?_ ?_)
   | (with_reducible refine LeO.bind ?_ (fun _ => ?_))
   | exact ih0 _ _ _
   | exact ih1 _ _ _ _
   | exact ih2 _ _ _ _
   | exact ih3 _ _ _
   | exact LeO.none _
   | refine LeO.ite ?_ ?_
   | refine LeO.bind ?_ (fun _ => ?_)
  ·
   intro y0 y1 y2
   unfold q10z.l0
   repeat' first
   | (with_reducible exact ih0 _ _ _)
   | (with_reducible exact ih1 _ _ _ _)
   | (with_reducible exact ih2 _ _ _ _)
   | (with_reducible exact ih3 _ _ _)
   | (with_reducible exact LeO.refl _)
   | (with_reducible exact LeO.none _)
   | (with_reducible refine LeO.ite ?_ ?_)
   | (with_reducible refine LeO.bind ?_ (fun _ => ?_))
   | exact ih0 _ _ _
   | exact ih1 _ _ _ _
   | exact ih2 _ _ _ _
   | exact ih3 _ _ _
   | exact LeO.none _
   | refine LeO.ite ?_ ?_
   | refine LeO.bind ?_ (fun _ => ?_)
theorem q10z.mono : ∀ a0 a1 k, LeO (q10z.f k a0 a1) (q10z.f (k + 1) a0 a1) := by
 intro a0 a1 k
 obtain ⟨ih0, ih1, ih2, ih3⟩ := q10z.mono_l k
 unfold q10z.f
 repeat' first
   | (with_reducible exact ih0 _ _ _)
   | (with_reducible exact ih1 _ _ _ _)
   | (with_reducible exact ih2 _ _ _ _)
   | (with_reducible exact ih3 _ _ _)
   | (with_reducible exact LeO.refl _)
   | (with_reducible exact LeO.none _)
   | (with_reducible refine LeO.ite ?_ ?_)
   | (with_reducible refine LeO.bind ?_ (fun _ => ?_))
   | exact ih0 _ _ _
   | exact ih1 _ _ _ _
   | exact ih2 _ _ _ _
   | exact ih3 _ _ _
   | exact LeO.none _
   | refine LeO.ite ?_ ?_
   | refine LeO.bind ?_ (fun _ => ?_)
set_option maxHeartbeats 8000000 in
set_option maxRecDepth 100000 in
theorem q10z.calls (k : Nat) (P0_ : Nat → Prop) (u9000_ : Value) (l0 : List Int) (a1 : Int) (r : List Int) (w0 w : World) (hB : Below w0.heap.size w0 w) (ho0 : Kd.R (Kd.int .u32) 29 w w0.heap.size P0_ u9000_ l0) (h : q10z.f k l0 a1 = some r) :
  Calls Try.prog 35 #[u9000_, .int .u32 a1] w fun e w' => ∃ v0_ : Value, e = .returned (v0_) ∧ Kd.R (Kd.int .u32) 29 w' w0.heap.size (fun k_ => (P0_ k_ ∨ w.heap.size ≤ k_)) v0_ r ∧ Below w0.heap.size w0 w' ∧ Kept w w' (fun k_ => P0_ k_) := by
 have HO0 := Aside0.mk (show Kd.R (Kd.int .u32) 29 w w0.heap.size (fun k_ => (P0_ k_ ∨ w.heap.size ≤ k_)) u9000_ l0 from Kd.R_mono ho0 (fun k_ hk => (.inl hk)))
 have HK := Aside0.mk (Kept.refl w (fun k_ => P0_ k_))
 have HW0 := Aside0.mk hB.size
 have HB := Aside0.mk hB
 clear hB
 have H : (q10z.l0 k l0 a1 0) = some r := h
 clear h
 have HC3 := Aside0.mk H
 clear H
 go_enter Try.func35, Try.ntmps35
 go_upto_block 0 with (fail)
 go_cut [5] (fun v5 wc => ∃ (kq : Nat) (x5_2 : Int), v5 = .int .i64 x5_2 ∧ Aside0 (q10z.j1 kq l0 a1 x5_2 = some r) ∧ Aside0 (kq ≤ k) ∧ Aside0 (Kd.R (Kd.int .u32) 29 wc w0.heap.size (fun k_ => (P0_ k_ ∨ w.heap.size ≤ k_)) u9000_ l0) ∧ Aside0 (Kept w wc (fun k_ => P0_ k_)) ∧ Aside0 (Below w0.heap.size w0 wc))
 case first =>
  have H := HC3.out
  clear HC3
  have H' := Aside0.mk H
  clear H
  go_wp2
  go_loopg [5] k (fun kq v5 w' => ∃ (x5_1 : Int), v5 = .int .i64 x5_1 ∧ Aside0 (q10z.l0 kq l0 a1 x5_1 = some r) ∧ Aside0 (kq ≤ k) ∧ Aside0 (Kd.R (Kd.int .u32) 29 w' w0.heap.size (fun k_ => (P0_ k_ ∨ w.heap.size ≤ k_)) u9000_ l0) ∧ Aside0 (Kept w w' (fun k_ => P0_ k_)) ∧ Aside0 (Below w0.heap.size w0 w'))
  case atStart => exact ⟨(0), (by first | rfl | (simp; done) | (simp [*]; done)), H', ⟨Nat.le_refl _⟩, ⟨by (with_reducible repeat (first | apply Kd.R_alloc | apply Kd.R_drewN | apply Kd.R_drew)); exact HO0.out⟩, ⟨by repeat (first | (with_reducible first | exact HK.out | apply Kept.alloc | apply Kept.drewN | apply Kept.drew) | exact HK.out)⟩, ⟨by repeat (first | (with_reducible first | exact HB.out | apply below_alloc | apply pw_below_drewN | apply below_drew1) | exact HB.out)⟩⟩
  case round =>
   clear H'
   try clear p2
   try clear c3
   obtain ⟨x5_1, rfl, HA, HK1, HO_0, HK, HB⟩ := hrel
   cases gk with
   | zero => exact absurd HA.out (by simp [q10z.l0])
   | succ k1 =>
    have H := HA.out
    clear HA
    simp only [q10z.l0] at H
    by_cases c4 : x5_1 < (l0.length : Int)
    ·
     rw [if_pos c4] at H
     have c4b0 : decide (x5_1 < (l0.length : Int)) = true := decide_eq_true c4
     clear c4
     (first | rw [c4b0] | (simp only [i64_w, i32_w, IntKind.wrap_u32]; rw [c4b0]) | skip)
     by_cases c5 : 0 ≤ x5_1
     ·
      rw [if_pos c5] at H
      have c5b0 : decide (0 ≤ x5_1) = true := decide_eq_true c5
      clear c5
      by_cases c6 : (rd l0 x5_1) < a1
      ·
       rw [if_pos c6] at H
       have c6b0 : decide ((rd l0 x5_1) < a1) = true := decide_eq_true c6
       clear c6
       have H' := Aside0.mk H
       clear H
       obtain ⟨Ao7, co7, eo7⟩ := Kd.R_slice HO_0.out
       subst eo7
       have p1 : 0 ≤ (x5_1 : Int) := of_decide_eq_true (by first | (with_reducible assumption) | assumption)
       have q1 : x5_1 < (l0.length : Int) := of_decide_eq_true (by first | (with_reducible assumption) | assumption)
       obtain ⟨ad1, e1, hx1_0⟩ := Kd.at_int (Kd.R_reads' HO_0.out).2.2 x5_1 p1 q1
       cases e1
       replace p1 := eq_true p1
       replace q1 := eq_true q1
       go_wp2
       go_roundg k1
       case measure => have := HK1.out; omega
       case rel => exact ⟨(wrap64 (x5_1 + 1)), (by first | rfl | (simp; done) | (simp [*]; done)), H', ⟨by have := HK1.out; omega⟩, ⟨by (with_reducible repeat (first | apply Kd.R_alloc | apply Kd.R_drewN | apply Kd.R_drew)); exact HO_0.out⟩, ⟨by repeat (first | (with_reducible first | exact HK.out | apply Kept.alloc | apply Kept.drewN | apply Kept.drew) | exact HK.out)⟩, ⟨by repeat (first | (with_reducible first | exact HB.out | apply below_alloc | apply pw_below_drewN | apply below_drew1) | exact HB.out)⟩⟩
      ·
       rw [if_neg c6] at H
       have c6b0 : decide ((rd l0 x5_1) < a1) = false := decide_eq_false c6
       clear c6
       have H' := Aside0.mk H
       clear H
       obtain ⟨Ao8, co8, eo8⟩ := Kd.R_slice HO_0.out
       subst eo8
       have p1 : 0 ≤ (x5_1 : Int) := of_decide_eq_true (by first | (with_reducible assumption) | assumption)
       have q1 : x5_1 < (l0.length : Int) := of_decide_eq_true (by first | (with_reducible assumption) | assumption)
       obtain ⟨ad1, e1, hx1_0⟩ := Kd.at_int (Kd.R_reads' HO_0.out).2.2 x5_1 p1 q1
       cases e1
       replace p1 := eq_true p1
       replace q1 := eq_true q1
       go_wp2
       go_meet
       case rel => exact ⟨_, (x5_1), (by first | rfl | (simp; done) | (simp [*]; done)), H', ⟨by have := HK1.out; first | omega | exact Nat.le_refl _⟩, ⟨by (with_reducible repeat (first | apply Kd.R_alloc | apply Kd.R_drewN | apply Kd.R_drew)); exact HO_0.out⟩, ⟨by repeat (first | (with_reducible first | exact HK.out | apply Kept.alloc | apply Kept.drewN | apply Kept.drew) | exact HK.out)⟩, ⟨by repeat (first | (with_reducible first | exact HB.out | apply below_alloc | apply pw_below_drewN | apply below_drew1) | exact HB.out)⟩⟩
     ·
      rw [if_neg c5] at H
      exact absurd H (by simp)
    ·
     rw [if_neg c4] at H
     have c4b0 : decide (x5_1 < (l0.length : Int)) = false := decide_eq_false c4
     clear c4
     (first | rw [c4b0] | (simp only [i64_w, i32_w, IntKind.wrap_u32]; rw [c4b0]) | skip)
     have H' := Aside0.mk H
     clear H
     obtain ⟨Ao9, co9, eo9⟩ := Kd.R_slice HO_0.out
     subst eo9
     go_wp2
     go_meet
     case rel => exact ⟨_, (x5_1), (by first | rfl | (simp; done) | (simp [*]; done)), H', ⟨by have := HK1.out; first | omega | exact Nat.le_refl _⟩, ⟨by (with_reducible repeat (first | apply Kd.R_alloc | apply Kd.R_drewN | apply Kd.R_drew)); exact HO_0.out⟩, ⟨by repeat (first | (with_reducible first | exact HK.out | apply Kept.alloc | apply Kept.drewN | apply Kept.drew) | exact HK.out)⟩, ⟨by repeat (first | (with_reducible first | exact HB.out | apply below_alloc | apply pw_below_drewN | apply below_drew1) | exact HB.out)⟩⟩
 case rest =>
  clear HC3
  try clear p1
  try clear q1
  try clear hx1
  try clear p2
  try clear c3
  try clear c4
  try clear c4b0
  try clear c5
  try clear c5b0
  try clear c6
  try clear c6b0
  try clear p6
  try clear hx1_0
  try clear p1
  try clear p2
  try clear q1
  obtain ⟨kq, x5_2, rfl, HA, HJ2, HO_0, HK, HB⟩ := hcut
  cases kq with
  | zero => exact absurd HA.out (by simp [q10z.j1])
  | succ kj2 =>
   have H := HA.out
   clear HA
   simp only [q10z.j1] at H
   have HC10 := Aside0.mk H
   clear H
   go_upto_region 4 with (fail)
   go_cut [32] (fun v32 wc => ∃ (kq : Nat) (x32_9 : Bool), v32 = .bool x32_9 ∧ Aside0 (q10z.j2 kq l0 a1 x5_2 x32_9 = some r) ∧ Aside0 (kq ≤ kj2) ∧ Aside0 (Kd.R (Kd.int .u32) 29 wc w0.heap.size (fun k_ => (P0_ k_ ∨ w.heap.size ≤ k_)) u9000_ l0) ∧ Aside0 (Kept w wc (fun k_ => P0_ k_)) ∧ Aside0 (Below w0.heap.size w0 wc))
   case first =>
    have H := HC10.out
    clear HC10
    by_cases c11 : x5_2 < (l0.length : Int)
    ·
     rw [if_pos c11] at H
     have c11b0 : decide (x5_2 < (l0.length : Int)) = true := decide_eq_true c11
     clear c11
     (first | rw [c11b0] | (simp only [i64_w, i32_w, IntKind.wrap_u32]; rw [c11b0]) | skip)
     by_cases c12 : 0 ≤ x5_2
     ·
      rw [if_pos c12] at H
      have c12b0 : decide (0 ≤ x5_2) = true := decide_eq_true c12
      clear c12
      have H' := Aside0.mk H
      clear H
      obtain ⟨Ao13, co13, eo13⟩ := Kd.R_slice HO_0.out
      subst eo13
      have p2 : 0 ≤ (x5_2 : Int) := of_decide_eq_true (by first | (with_reducible assumption) | assumption)
      have q2 : x5_2 < (l0.length : Int) := of_decide_eq_true (by first | (with_reducible assumption) | assumption)
      obtain ⟨ad2, e2, hx2_0⟩ := Kd.at_int (Kd.R_reads' HO_0.out).2.2 x5_2 p2 q2
      cases e2
      replace p2 := eq_true p2
      replace q2 := eq_true q2
      go_wp2
      go_meet
      case rel => exact ⟨_, (((rd l0 x5_2) == a1)), (by first | rfl | (simp; done) | (simp [*]; done)), H', ⟨by have := HJ2.out; first | omega | exact Nat.le_refl _⟩, ⟨by (with_reducible repeat (first | apply Kd.R_alloc | apply Kd.R_drewN | apply Kd.R_drew)); exact HO_0.out⟩, ⟨by repeat (first | (with_reducible first | exact HK.out | apply Kept.alloc | apply Kept.drewN | apply Kept.drew) | exact HK.out)⟩, ⟨by repeat (first | (with_reducible first | exact HB.out | apply below_alloc | apply pw_below_drewN | apply below_drew1) | exact HB.out)⟩⟩
     ·
      rw [if_neg c12] at H
      exact absurd H (by simp)
    ·
     rw [if_neg c11] at H
     have c11b0 : decide (x5_2 < (l0.length : Int)) = false := decide_eq_false c11
     clear c11
     (first | rw [c11b0] | (simp only [i64_w, i32_w, IntKind.wrap_u32]; rw [c11b0]) | skip)
     have H' := Aside0.mk H
     clear H
     obtain ⟨Ao14, co14, eo14⟩ := Kd.R_slice HO_0.out
     subst eo14
     go_wp2
     go_meet
     case rel => exact ⟨_, (false), (by first | rfl | (simp; done) | (simp [*]; done)), H', ⟨by have := HJ2.out; first | omega | exact Nat.le_refl _⟩, ⟨by (with_reducible repeat (first | apply Kd.R_alloc | apply Kd.R_drewN | apply Kd.R_drew)); exact HO_0.out⟩, ⟨by repeat (first | (with_reducible first | exact HK.out | apply Kept.alloc | apply Kept.drewN | apply Kept.drew) | exact HK.out)⟩, ⟨by repeat (first | (with_reducible first | exact HB.out | apply below_alloc | apply pw_below_drewN | apply below_drew1) | exact HB.out)⟩⟩
   case rest =>
    clear HC10
    try clear c1
    try clear p1
    try clear q1
    try clear hx1
    try clear p2
    try clear q2
    try clear hx2
    try clear c3
    try clear c4
    try clear c4b0
    try clear c5
    try clear c5b0
    try clear c6
    try clear c6b0
    try clear p6
    try clear c11
    try clear c11b0
    try clear c12
    try clear c12b0
    try clear hx1_0
    try clear hx2_0
    try clear p1
    try clear p2
    try clear p6
    try clear q1
    try clear q2
    obtain ⟨kq, x32_9, rfl, HA, HJ9, HO_0, HK, HB⟩ := hcut
    cases kq with
    | zero => exact absurd HA.out (by simp [q10z.j2])
    | succ kj9 =>
     have H := HA.out
     clear HA
     simp only [q10z.j2] at H
     by_cases c15 : x32_9 = true
     ·
      subst c15
      have H1 : (some l0) = some r := by rw [if_pos rfl] at H; exact H
      clear H
      have H := H1
      clear H1
      obtain rfl := Option.some.inj H
      go_wp2
      go_ret
      exact ⟨_, by first | rfl | (simp [errW_none, errW_some] <;> rfl) | (simp [*, errW_none, errW_some] <;> rfl), by (with_reducible repeat (first | apply Kd.R_alloc | apply Kd.R_drewN | apply Kd.R_drew)); exact HO_0.out, by repeat (first | (with_reducible first | exact HB.out | apply below_alloc | apply pw_below_drewN | apply below_drew1) | exact HB.out), by repeat (first | (with_reducible first | exact HK.out | apply Kept.alloc | apply Kept.drewN | apply Kept.drew) | exact HK.out)⟩
     ·
      replace c15 := Bool.eq_false_iff.mpr c15
      subst c15
      have H1 : (if l0.length < 35184372088832 then ((some (l0 ++ [0] : List Int)).bind fun y3 => (q10z.l1 kj9 y3 a1 x5_2 (wrap64 ((y3.length : Int) - 1)))) else (none)) = some r := by rw [if_neg (show ¬ (false = true) by decide)] at H; exact H
      clear H
      have H := H1
      clear H1
      by_cases c16 : l0.length < 35184372088832
      ·
       rw [if_pos c16] at H
       have LMc16 := Aside0.mk c16
       clear c16
       obtain ⟨y3, hy3⟩ : ∃ y_ : List Int, y_ = (l0 ++ [0]) := ⟨_, rfl⟩
       replace H : (q10z.l1 kj9 y3 a1 x5_2 (wrap64 ((y3.length : Int) - 1))) = some r := by first | (rw [hy3]; with_reducible exact H) | (have H2_ := (Option.bind_some _ _).symm.trans H; rw [hy3]; with_reducible exact H2_) | (have H2_ := (Option.bind_some _ _).symm.trans H; with_reducible exact H2_) | with_reducible exact H | (rw [hy3]; exact H) | exact H
       have Ny3 := Aside0.mk hy3
       clear hy3
       have H' := Aside0.mk H
       clear H
       go_wp2_with (first | ((with_reducible refine gate_builtin (b := .append) (xs := #[.tmp 34, .tmp 35]) rfl ?_); at_builtin; refine Kd.R_append (Kd.int .u32) (w0 := w0) w0.heap.size rfl (.tmp 34) (.tmp 35) 37 29 (.int .u32 0) 4 rfl Try.underlying37 info29 rfl (by decide) (by omega) u9000_ l0 0 [.int .u32 0] (fun k_ => (P0_ k_ ∨ w.heap.size ≤ k_)) (fun _ => False) rfl rfl ?aP (fun _ hk => hk.elim) ?aF ?aO ?aB ?aS ?aL ?_; (case aP => exact rfl); (case aB => exact (by repeat (first | (with_reducible first | exact HB.out | apply below_alloc | apply pw_below_drewN | apply below_drew1) | exact HB.out))); (case aF => exact (fun k_ hk => (.inr (Nat.le_trans (by first | exact HK.out.1 | exact (show Kept w _ (fun k_ => P0_ k_) from by repeat (first | (with_reducible first | exact HK.out | apply Kept.alloc | apply Kept.drewN | apply Kept.drew) | exact HK.out)).1) hk)))); (case aO => exact (by (with_reducible repeat (first | apply Kd.R_alloc | apply Kd.R_drewN | apply Kd.R_drew)); exact HO_0.out)); (case aS => exact (below_size (by repeat (first | (with_reducible first | exact HB.out | apply below_alloc | apply pw_below_drewN | apply below_drew1) | exact HB.out)))); (case aL => have := LMc16.out; omega); intro v4 w17 ho hb hg hat; rw [← Ny3.out] at ho; have n0_ := Aside0.mk (hb); have n1_ := Aside0.mk (Kept.of_grown (S := (fun k_ => P0_ k_)) hg (by repeat (first | (with_reducible first | exact HK.out | apply Kept.alloc | apply Kept.drewN | apply Kept.drew) | exact HK.out)) (fun k_ e_ => (HO_0.out.1 k_ e_))); have n2_ := Aside0.mk (ho); clear HB; clear HK; clear HO_0; have HB := n0_; have HK := n1_; have HO5 := n2_; clear n0_ n1_ n2_; clear ho hb hg hat; obtain ⟨Ao18, co18, eo18⟩ := Kd.R_slice HO5.out; subst eo18))
       go_loopg [6] kj9 (fun kq v6 w' => ∃ (x0_3 : List Int) (x6_3 : Int), v6 = .int .i64 x6_3 ∧ Aside0 (q10z.l1 kq x0_3 a1 x5_2 x6_3 = some r) ∧ Aside0 (kq ≤ kj9) ∧ Aside0 (Kd.R (Kd.int .u32) 29 w' w0.heap.size (fun k_ => (P0_ k_ ∨ w.heap.size ≤ k_)) (.slice Ao18 y3.length co18) x0_3) ∧ Aside0 (Kept w w' (fun k_ => P0_ k_)) ∧ Aside0 (Below w0.heap.size w0 w'))
       case atStart => exact ⟨(y3), (wrap64 ((y3.length : Int) - 1)), (by first | rfl | (simp; done) | (simp [*]; done)), H', ⟨Nat.le_refl _⟩, ⟨by (with_reducible repeat (first | apply Kd.R_alloc | apply Kd.R_drewN | apply Kd.R_drew)); exact HO5.out⟩, ⟨by repeat (first | (with_reducible first | exact HK.out | apply Kept.alloc | apply Kept.drewN | apply Kept.drew) | exact HK.out)⟩, ⟨by repeat (first | (with_reducible first | exact HB.out | apply below_alloc | apply pw_below_drewN | apply below_drew1) | exact HB.out)⟩⟩
       case round =>
        clear H'
        try clear c1
        try clear p1
        try clear q1
        try clear hx1
        try clear p2
        try clear q2
        try clear hx2
        try clear c3
        try clear c4
        try clear c4b0
        try clear c5
        try clear c5b0
        try clear c6
        try clear c6b0
        try clear p6
        try clear c11
        try clear c11b0
        try clear c12
        try clear c12b0
        try clear c15
        try clear c16
        try clear hx1_0
        try clear hx2_0
        try clear p1
        try clear p2
        try clear p6
        try clear q1
        try clear q2
        obtain ⟨x0_3, x6_3, rfl, HA, HK3, HO_0, HK, HB⟩ := hrel
        have hl0_3 := (Kd.R_reads' HO_0.out).1
        rw [hl0_3] at HO_0
        (try simp only [hl0_3])
        cases gk with
        | zero => exact absurd HA.out (by simp [q10z.l1])
        | succ k3 =>
         have H := HA.out
         clear HA
         simp only [q10z.l1] at H
         by_cases c19 : x6_3 > x5_2
         ·
          rw [if_pos c19] at H
          have c19b0 : decide (x5_2 < x6_3) = true := decide_eq_true c19
          clear c19
          obtain ⟨ji20, hji20⟩ : ∃ j_ : Int, (wrap64 (x6_3 - 1)) = j_ := ⟨_, rfl⟩
          replace H : (if 0 ≤ (ji20) then (if (ji20) < (x0_3.length : Int) then (if 0 ≤ x6_3 then (if x6_3 < (x0_3.length : Int) then (q10z.l1 k3 (x0_3.set (x6_3 : Int).toNat (rd x0_3 (ji20))) a1 x5_2 ji20) else (none)) else (none)) else (none)) else (none)) = some r := by first | (rw [hji20] at H; exact H) | (simp only [hji20] at H ⊢; exact H)
          have hji20w : (IntKind.i64.wrap (x6_3 - 1)) = ji20 := (i64_w _).trans hji20
          by_cases c21 : 0 ≤ (ji20)
          ·
           rw [if_pos c21] at H
           have c21b0 : decide (0 ≤ (ji20)) = true := decide_eq_true c21
           clear c21
           by_cases c22 : (ji20) < (x0_3.length : Int)
           ·
            rw [if_pos c22] at H
            have c22b0 : decide ((ji20) < (x0_3.length : Int)) = true := decide_eq_true c22
            clear c22
            by_cases c23 : 0 ≤ x6_3
            ·
             rw [if_pos c23] at H
             have c23b0 : decide (0 ≤ x6_3) = true := decide_eq_true c23
             clear c23
             by_cases c24 : x6_3 < (x0_3.length : Int)
             ·
              rw [if_pos c24] at H
              have c24b0 : decide (x6_3 < (x0_3.length : Int)) = true := decide_eq_true c24
              clear c24
              obtain ⟨y7, hy7⟩ : ∃ y_ : List Int, y_ = (x0_3.set (x6_3 : Int).toNat (rd x0_3 (ji20))) := ⟨_, rfl⟩
              replace H : (q10z.l1 k3 y7 a1 x5_2 ji20) = some r := by first | (rw [hy7]; with_reducible exact H) | (have H2_ := (Option.bind_some _ _).symm.trans H; rw [hy7]; with_reducible exact H2_) | (have H2_ := (Option.bind_some _ _).symm.trans H; with_reducible exact H2_) | with_reducible exact H | (rw [hy7]; exact H) | exact H
              have Ny7 := Aside0.mk hy7
              clear hy7
              have H' := Aside0.mk H
              clear H
              have p6 : 0 ≤ ((ji20) : Int) := of_decide_eq_true (by first | (with_reducible assumption) | assumption)
              have q6 : (ji20) < (x0_3.length : Int) := of_decide_eq_true (by first | (with_reducible assumption) | assumption)
              obtain ⟨ad6, e6, hx6_0⟩ := Kd.at_int (Kd.R_reads' HO_0.out).2.2 (ji20) p6 q6
              cases e6
              replace p6 := eq_true p6
              replace q6 := eq_true q6
              have p25 : 0 ≤ (x6_3 : Int) := of_decide_eq_true (by first | (with_reducible assumption) | assumption)
              have q25 : (x6_3 : Int) < ((x0_3.length : Int) : Int) := of_decide_eq_true (by first | (with_reducible assumption) | assumption)
              obtain ⟨go25, co25, eo25, gb25, gl25, cl25, HG25⟩ := Kd.R_form HO_0.out (by omega)
              (first | cases eo25 | (injection eo25 with ea_ en_ ec_; (first | subst ea_ | (injection ea_ with ea_; subst ea_)); subst ec_; clear en_))
              have GB25 := Aside0.mk gb25
              have GG25 := Aside0.mk HG25
              clear gb25 gl25 HG25
              have HMgo25 := Aside0.mk (show (P0_ go25 ∨ w.heap.size ≤ go25) from (HO_0.out.1 _ rfl))
              (first | simp only [add_plain] at hx6_0 | skip)
              obtain ⟨hx25_0, hf25_0⟩ := Kd.R_celln 0 HO_0.out (x6_3 : Int) p25 q25
              replace p25 := eq_true p25
              replace q25 := eq_true q25
              have HP26 := Kd.R_putg HO_0.out (x6_3 : Int) (rd x0_3 (ji20))
              go_wp2_with (first | ((with_reducible refine gate_store (t := 29) (p := 52) rfl ?_); refine store_event (t := 29) (p := 52) (v := ?vo_w27) (w1 := (wr.setCell ⟨go25, (x6_3 : Int).toNat, none⟩ (.int .u32 (rd x0_3 (ji20))))) ?hg ?ho ?hn ?hr ?_; (case ho => rfl); (case hg => rfl); (case hn => rfl); (case hr => first | (go_simp; done) | (go_simp; rfl)); intro w27 hw; have hg : wr.grownBy w27 (some go25) := (by rw [hw]; exact HP26.2); have hp_ : Kd.R (Kd.int .u32) 29 w27 w0.heap.size (fun k_ => (P0_ k_ ∨ w.heap.size ≤ k_)) (.slice (some ⟨go25, 0, none⟩) x0_3.length co18) y7 := (by rw [hw, Ny7.out]; exact HP26.1); clear HP26; have n0_ := Aside0.mk (hp_); have n1_ := Aside0.mk ((by rw [hw]; exact below_set (HB.out) GB25.out : Below w0.heap.size w0 w27)); have n2_ := Aside0.mk (Kept.of_grown (S := (fun k_ => P0_ k_)) hg (by repeat (first | (with_reducible first | exact HK.out | apply Kept.alloc | apply Kept.drewN | apply Kept.drew) | exact HK.out)) (fun k_ e_ => (HO_0.out.1 k_ e_))); clear HO_0; clear HB; clear HK; have HO_0 := n0_; have HB := n1_; have HK := n2_; clear n0_ n1_ n2_; clear hg hw hp_))
              (try simp only [← hl0_3])
              go_roundg k3
              case measure => have := HJ2.out; have := HJ9.out; have := HK3.out; omega
              case rel => exact ⟨(y7), (ji20), (by first | rfl | (simp; done) | (simp only [← hji20] <;> (first | rfl | simp)) | (simp [*]; done)), H', ⟨by have := HJ2.out; have := HJ9.out; have := HK3.out; omega⟩, ⟨by (try simp only [hl0_3]); (with_reducible repeat (first | apply Kd.R_alloc | apply Kd.R_drewN | apply Kd.R_drew)); exact HO_0.out⟩, ⟨by repeat (first | (with_reducible first | exact HK.out | apply Kept.alloc | apply Kept.drewN | apply Kept.drew) | exact HK.out)⟩, ⟨by repeat (first | (with_reducible first | exact HB.out | apply below_alloc | apply pw_below_drewN | apply below_drew1) | exact HB.out)⟩⟩
             ·
              rw [if_neg c24] at H
              exact absurd H (by simp)
            ·
             rw [if_neg c23] at H
             exact absurd H (by simp)
           ·
            rw [if_neg c22] at H
            exact absurd H (by simp)
          ·
           rw [if_neg c21] at H
           exact absurd H (by simp)
         ·
          rw [if_neg c19] at H
          have c19b0 : decide (x5_2 < x6_3) = false := decide_eq_false c19
          clear c19
          by_cases c28 : 0 ≤ x5_2
          ·
           rw [if_pos c28] at H
           have c28b0 : decide (0 ≤ x5_2) = true := decide_eq_true c28
           clear c28
           by_cases c29 : x5_2 < (x0_3.length : Int)
           ·
            rw [if_pos c29] at H
            have c29b0 : decide (x5_2 < (x0_3.length : Int)) = true := decide_eq_true c29
            clear c29
            obtain ⟨y8, hy8⟩ : ∃ y_ : List Int, y_ = (x0_3.set (x5_2 : Int).toNat a1) := ⟨_, rfl⟩
            replace H : (some y8) = some r := by first | (rw [hy8]; with_reducible exact H) | (have H2_ := (Option.bind_some _ _).symm.trans H; rw [hy8]; with_reducible exact H2_) | (have H2_ := (Option.bind_some _ _).symm.trans H; with_reducible exact H2_) | with_reducible exact H | (rw [hy8]; exact H) | exact H
            have Ny8 := Aside0.mk hy8
            clear hy8
            obtain rfl := Option.some.inj H
            have p30 : 0 ≤ (x5_2 : Int) := of_decide_eq_true (by first | (with_reducible assumption) | assumption)
            have q30 : (x5_2 : Int) < ((x0_3.length : Int) : Int) := of_decide_eq_true (by first | (with_reducible assumption) | assumption)
            obtain ⟨go30, co30, eo30, gb30, gl30, cl30, HG30⟩ := Kd.R_form HO_0.out (by omega)
            (first | cases eo30 | (injection eo30 with ea_ en_ ec_; (first | subst ea_ | (injection ea_ with ea_; subst ea_)); subst ec_; clear en_))
            have GB30 := Aside0.mk gb30
            have GG30 := Aside0.mk HG30
            clear gb30 gl30 HG30
            have HMgo30 := Aside0.mk (show (P0_ go30 ∨ w.heap.size ≤ go30) from (HO_0.out.1 _ rfl))
            obtain ⟨hx30_0, hf30_0⟩ := Kd.R_celln 0 HO_0.out (x5_2 : Int) p30 q30
            replace p30 := eq_true p30
            replace q30 := eq_true q30
            have HP31 := Kd.R_putg HO_0.out (x5_2 : Int) a1
            go_wp2_with (first | ((with_reducible refine gate_store (t := 29) (p := 56) rfl ?_); refine store_event (t := 29) (p := 56) (v := ?vo_w32) (w1 := (wr.setCell ⟨go30, (x5_2 : Int).toNat, none⟩ (.int .u32 a1))) ?hg ?ho ?hn ?hr ?_; (case ho => rfl); (case hg => rfl); (case hn => rfl); (case hr => first | (go_simp; done) | (go_simp; rfl)); intro w32 hw; have hg : wr.grownBy w32 (some go30) := (by rw [hw]; exact HP31.2); have hp_ : Kd.R (Kd.int .u32) 29 w32 w0.heap.size (fun k_ => (P0_ k_ ∨ w.heap.size ≤ k_)) (.slice (some ⟨go30, 0, none⟩) x0_3.length co18) y8 := (by rw [hw, Ny8.out]; exact HP31.1); clear HP31; have n0_ := Aside0.mk (hp_); have n1_ := Aside0.mk ((by rw [hw]; exact below_set (HB.out) GB30.out : Below w0.heap.size w0 w32)); have n2_ := Aside0.mk (Kept.of_grown (S := (fun k_ => P0_ k_)) hg (by repeat (first | (with_reducible first | exact HK.out | apply Kept.alloc | apply Kept.drewN | apply Kept.drew) | exact HK.out)) (fun k_ e_ => (HO_0.out.1 k_ e_))); clear HO_0; clear HB; clear HK; have HO_0 := n0_; have HB := n1_; have HK := n2_; clear n0_ n1_ n2_; clear hg hw hp_))
            go_ret
            exact ⟨_, by first | rfl | (simp [errW_none, errW_some] <;> rfl) | (simp [*, errW_none, errW_some] <;> rfl), by (with_reducible repeat (first | apply Kd.R_alloc | apply Kd.R_drewN | apply Kd.R_drew)); exact HO_0.out, by repeat (first | (with_reducible first | exact HB.out | apply below_alloc | apply pw_below_drewN | apply below_drew1) | exact HB.out), by repeat (first | (with_reducible first | exact HK.out | apply Kept.alloc | apply Kept.drewN | apply Kept.drew) | exact HK.out)⟩
           ·
            rw [if_neg c29] at H
            exact absurd H (by simp)
          ·
           rw [if_neg c28] at H
           exact absurd H (by simp)
      ·
       rw [if_neg c16] at H
       exact absurd H (by simp)

end Go.Proofs.Ytconaifcjnpabaa.P

namespace Go.Proofs.Ytconaifcjnpabaa.P
open Go.RowKit Go.Proofs.YtconaifcjnpabaaW.PrintWords Go.Proofs.YtconaifcjnpabaaW.PrintLast Go.Proofs.YtconaifcjnpabaaW.PrintMore
attribute [local go_sem] max2_int min2_int max_two min_two max_three min_three max_four min_four
set_option linter.unusedVariables false
set_option linter.unusedSimpArgs false

/-! ### dragomanref01_begins: function 24 -/
mutual
def q11z.l0 : Nat → List Int → List (List (S33)) → Int → Int → Option (List Int)
 | 0, _, _, _, _ => none
 | k + 1, x3, x9, x10, x11 => if x11 < x10 then (if 0 ≤ x11 then (if x11 < (x9.length : Int) then (q11z.l1 k x3 x9 x10 x11 (rd_L2 x9 x11) ((rd_L2 x9 x11).length : Int) 0) else (none)) else (none)) else (some x3)
def q11z.l1 : Nat → List Int → List (List (S33)) → Int → Int → List (S33) → Int → Int → Option (List Int)
 | 0, _, _, _, _, _, _, _ => none
 | k + 1, x3, x9, x10, x11, x15, x16, x17 => if x17 < x16 then (if 0 ≤ x17 then (if x17 < (x15.length : Int) then (if ((rd_T33 x15 x17).f0) > ((rd_T33 x15 x17).f1) then (q11z.l1 k x3 x9 x10 x11 x15 x16 (wrap64 (x17 + 1))) else ((q10z.f k x3 ((rd_T33 x15 x17).f0)).bind fun t7 => (if ((rd_T33 x15 x17).f1) < 4294967295 then ((q10z.f k t7 ((((rd_T33 x15 x17).f1) + 1) % 4294967296)).bind fun t10 => (q11z.l1 k t10 x9 x10 x11 x15 x16 (wrap64 (x17 + 1)))) else (q11z.l1 k t7 x9 x10 x11 x15 x16 (wrap64 (x17 + 1)))))) else (none)) else (none)) else (q11z.l0 k x3 x9 x10 (wrap64 (x11 + 1)))
end
def q11z.f (k : Nat) (l0 : List (List (S33))) : Option (List Int) := q11z.l0 k (([0] : List Int)) l0 (l0.length : Int) 0
theorem q11z.mono_l : ∀ k, (∀ y0 y1 y2 y3, LeO (q11z.l0 k y0 y1 y2 y3) (q11z.l0 (k + 1) y0 y1 y2 y3)) ∧ (∀ y0 y1 y2 y3 y4 y5 y6, LeO (q11z.l1 k y0 y1 y2 y3 y4 y5 y6) (q11z.l1 (k + 1) y0 y1 y2 y3 y4 y5 y6))
 | 0 => ⟨fun _ _ _ _ r h => by simp [q11z.l0] at h, fun _ _ _ _ _ _ _ r h => by simp [q11z.l1] at h⟩
 | k + 1 => by
  obtain ⟨ih0, ih1⟩ := q11z.mono_l k
  refine ⟨?_, ?_⟩
  ·
   intro y0 y1 y2 y3
   unfold q11z.l0
   repeat' first
   | (with_reducible exact ih0 _ _ _ _)
   | (with_reducible exact ih1 _ _ _ _ _ _ _)
   | (with_reducible exact q10z.mono _ _ _)
   | (with_reducible exact LeO.refl _)
   | (with_reducible exact LeO.none _)
   | (with_reducible refine LeO.ite ?_ ?_)
   | (with_reducible refine LeO.bind ?_ (fun _ => ?_))
   | exact ih0 _ _ _ _
   | exact ih1 _ _ _ _ _ _ _
   | exact q10z.mono _ _ _
   | exact LeO.none _
   | refine LeO.ite ?_ ?_
   | refine LeO.bind ?_ (fun _ => ?_)
  ·
   intro y0 y1 y2 y3 y4 y5 y6
   unfold q11z.l1
   repeat' first
   | (with_reducible exact ih0 _ _ _ _)
   | (with_reducible exact ih1 _ _ _ _ _ _ _)
   | (with_reducible exact q10z.mono _ _ _)
   | (with_reducible exact LeO.refl _)
   | (with_reducible exact LeO.none _)
   | (with_reducible refine LeO.ite ?_ ?_)
   | (with_reducible refine LeO.bind ?_ (fun _ => ?_))
   | exact ih0 _ _ _ _
   | exact ih1 _ _ _ _ _ _ _
   | exact q10z.mono _ _ _
   | exact LeO.none _
   | refine LeO.ite ?_ ?_
   | refine LeO.bind ?_ (fun _ => ?_)
theorem q11z.mono : ∀ a0 k, LeO (q11z.f k a0) (q11z.f (k + 1) a0) := by
 intro a0 k
 obtain ⟨ih0, ih1⟩ := q11z.mono_l k
 unfold q11z.f
 repeat' first
   | (with_reducible exact ih0 _ _ _ _)
   | (with_reducible exact ih1 _ _ _ _ _ _ _)
   | (with_reducible exact q10z.mono _ _ _)
   | (with_reducible exact LeO.refl _)
   | (with_reducible exact LeO.none _)
   | (with_reducible refine LeO.ite ?_ ?_)
   | (with_reducible refine LeO.bind ?_ (fun _ => ?_))
   | exact ih0 _ _ _ _
   | exact ih1 _ _ _ _ _ _ _
   | exact q10z.mono _ _ _
   | exact LeO.none _
   | refine LeO.ite ?_ ?_
   | refine LeO.bind ?_ (fun _ => ?_)
set_option maxHeartbeats 8000000 in
set_option maxRecDepth 100000 in
theorem q11z.calls (k : Nat) (A0 : Option Addr) (c0 : Nat) (l0 : List (List (S33))) (r : List Int) (w : World) (hr0 : Kd.C (Kd.slice 33 k33) w A0 l0.length l0) (hc0 : l0.length ≤ c0) (h : q11z.f k l0 = some r) :
  Calls Try.prog 24 #[.slice A0 l0.length c0] w fun e w' => ∃ v0_ : Value, e = .returned (v0_) ∧ Kd.R (Kd.int .u32) 29 w' w.heap.size (fun _ => True) v0_ r ∧ Below w.heap.size w w' := by
 have hu33 := Try.underlying33
 have HR0 := Aside0.mk hr0
 have HC0 := Aside0.mk hc0
 clear hr0 hc0
 have HB := Aside0.mk (Below.refl w.heap.size w)
 have H : (q11z.l0 k (([0] : List Int)) l0 (l0.length : Int) 0) = some r := h
 clear h
 obtain ⟨y1, hy1⟩ : ∃ y_ : List Int, y_ = (([0] : List Int)) := ⟨_, rfl⟩
 replace H : (q11z.l0 k y1 l0 (l0.length : Int) 0) = some r := by first | (rw [hy1]; with_reducible exact H) | (have H2_ := (Option.bind_some _ _).symm.trans H; rw [hy1]; with_reducible exact H2_) | (have H2_ := (Option.bind_some _ _).symm.trans H; with_reducible exact H2_) | with_reducible exact H | (rw [hy1]; exact H) | exact H
 have Ny1 := Aside0.mk hy1
 clear hy1
 have H' := Aside0.mk H
 clear H
 go_enter Try.func24, Try.ntmps24
 go_wp2_with (first | ((with_reducible refine gate_dst (N := 8) rfl ?_); refine Kd.R_lit (Kd.int .u32) _ 29 ?hg (N := 8) ?hd (xs := ([0] : List Int)) (inner := [.int .u32 0]) (ok := fun _ => True) (okp := fun _ => True) ?hr ?hp (fun _ hk => hk) trivial (Below.refl _ _) (Nat.le_refl _) (by simp) ?_; (case hd => rfl); (case hg => rfl); (case hr => first | (go_simp; done) | (go_simp; rfl)); (case hp => exact (Reps.one (show Kd.M (Kd.int .u32) _ _ _ 0 [.int .u32 0] from rfl) (Reps.none _ _))); intro v2 w2 ho3 hb hg_ hnew_; clear hg_ hnew_; (first | rw [← Ny1.out] at ho3 | (simp only [Int.reduceToNat] at ho3; rw [← Ny1.out] at ho3)); have n0_ := Aside0.mk (Kd.R_lower ho3 (below_size (by repeat (first | (with_reducible first | exact HB.out | apply below_alloc | apply pw_below_drewN | apply below_drew1) | exact HB.out)))); have n1_ := Aside0.mk (below_step (by repeat (first | (with_reducible first | exact HB.out | apply below_alloc | apply pw_below_drewN | apply below_drew1) | exact HB.out)) hb); clear HB; have HO3 := n0_; have HB := n1_; clear n0_ n1_; clear hb ho3))
 go_loopg [3, 11] k (fun kq v3 v11 w' => ∃ (x3_1 : List Int) (x11_1 : Int), v11 = .int .i64 x11_1 ∧ Aside0 (q11z.l0 kq x3_1 l0 (l0.length : Int) x11_1 = some r) ∧ Aside0 (kq ≤ k) ∧ Aside0 (Kd.R (Kd.int .u32) 29 w' w.heap.size (fun _ => True) v3 x3_1) ∧ Aside0 (Below w.heap.size w w'))
 case atStart => exact ⟨(y1), (0), (by first | rfl | (simp; done) | (simp [*]; done)), H', ⟨Nat.le_refl _⟩, ⟨by (with_reducible repeat (first | apply Kd.R_alloc | apply Kd.R_drewN | apply Kd.R_drew)); exact HO3.out⟩, ⟨by repeat (first | (with_reducible first | exact HB.out | apply below_alloc | apply pw_below_drewN | apply below_drew1) | exact HB.out)⟩⟩
 case round =>
  clear H'
  try clear c2
  try clear p2
  obtain ⟨x3_1, x11_1, rfl, HA, HK1, HO_3, HB⟩ := hrel
  cases gk with
  | zero => exact absurd HA.out (by simp [q11z.l0])
  | succ k1 =>
   have H := HA.out
   clear HA
   simp only [q11z.l0] at H
   by_cases c4 : x11_1 < (l0.length : Int)
   ·
    rw [if_pos c4] at H
    have c4b0 : decide (x11_1 < (l0.length : Int)) = true := decide_eq_true c4
    clear c4
    by_cases c5 : 0 ≤ x11_1
    ·
     rw [if_pos c5] at H
     have c5b0 : decide (0 ≤ x11_1) = true := decide_eq_true c5
     clear c5
     by_cases c6 : x11_1 < (l0.length : Int)
     ·
      rw [if_pos c6] at H
      have c6b0 : decide (x11_1 < (l0.length : Int)) = true := decide_eq_true c6
      clear c6
      have H' := Aside0.mk H
      clear H
      have p4 : 0 ≤ (x11_1 : Int) := of_decide_eq_true (by first | (with_reducible assumption) | assumption)
      have q4 : x11_1 < (l0.length : Int) := of_decide_eq_true (by first | (with_reducible assumption) | assumption)
      obtain ⟨ad4, A4_0, c4_0, e4, hx4_0, hl4_0, hi4_0⟩ := at_L2 HR0.out x11_1 p4 q4
      cases e4
      replace hx4_0 := (HB.out.cell (World.block_lt_of_cell? w _ hx4_0)).trans hx4_0
      have HR4_0 := Aside0.mk hi4_0
      have HC4_0 := Aside0.mk hl4_0
      clear hi4_0 hl4_0
      replace p4 := eq_true p4
      replace q4 := eq_true q4
      go_wp2
      go_loopg [3, 17] k1 (fun kq v3 v17 w' => ∃ (x3_2 : List Int) (x17_2 : Int), v17 = .int .i64 x17_2 ∧ Aside0 (q11z.l1 kq x3_2 l0 (l0.length : Int) x11_1 (rd_L2 l0 x11_1) ((rd_L2 l0 x11_1).length : Int) x17_2 = some r) ∧ Aside0 (kq ≤ k1) ∧ Aside0 (Kd.R (Kd.int .u32) 29 w' w.heap.size (fun _ => True) v3 x3_2) ∧ Aside0 (Below w.heap.size w w'))
      case atStart => exact ⟨(x3_1), (0), (by first | rfl | (simp; done) | (simp [*]; done)), H', ⟨Nat.le_refl _⟩, ⟨by (with_reducible repeat (first | apply Kd.R_alloc | apply Kd.R_drewN | apply Kd.R_drew)); exact HO_3.out⟩, ⟨by repeat (first | (with_reducible first | exact HB.out | apply below_alloc | apply pw_below_drewN | apply below_drew1) | exact HB.out)⟩⟩
      case round =>
       clear H'
       try clear c2
       try clear p2
       try clear c4
       try clear c4b0
       try clear p4
       try clear q4
       try clear hx4
       try clear c5
       try clear c5b0
       try clear c6
       try clear c6b0
       try clear hx4_0
       try clear p2
       try clear p4
       try clear q4
       obtain ⟨x3_2, x17_2, rfl, HA, HK2, HO_3, HB⟩ := hrel
       cases gk with
       | zero => exact absurd HA.out (by simp [q11z.l1])
       | succ k2 =>
        have H := HA.out
        clear HA
        simp only [q11z.l1] at H
        by_cases c7 : x17_2 < ((rd_L2 l0 x11_1).length : Int)
        ·
         rw [if_pos c7] at H
         have c7b0 : decide (x17_2 < ((rd_L2 l0 x11_1).length : Int)) = true := decide_eq_true c7
         clear c7
         by_cases c8 : 0 ≤ x17_2
         ·
          rw [if_pos c8] at H
          have c8b0 : decide (0 ≤ x17_2) = true := decide_eq_true c8
          clear c8
          by_cases c9 : x17_2 < ((rd_L2 l0 x11_1).length : Int)
          ·
           rw [if_pos c9] at H
           have c9b0 : decide (x17_2 < ((rd_L2 l0 x11_1).length : Int)) = true := decide_eq_true c9
           clear c9
           by_cases c10 : ((rd_T33 (rd_L2 l0 x11_1) x17_2).f0) > ((rd_T33 (rd_L2 l0 x11_1) x17_2).f1)
           ·
            rw [if_pos c10] at H
            have c10b0 : decide (((rd_T33 (rd_L2 l0 x11_1) x17_2).f1) < ((rd_T33 (rd_L2 l0 x11_1) x17_2).f0)) = true := decide_eq_true c10
            clear c10
            have H' := Aside0.mk H
            clear H
            have p5 : 0 ≤ (x17_2 : Int) := of_decide_eq_true (by first | (with_reducible assumption) | assumption)
            have q5 : x17_2 < ((rd_L2 l0 x11_1).length : Int) := of_decide_eq_true (by first | (with_reducible assumption) | assumption)
            obtain ⟨ad5, e5, hx5_0, hx5_1⟩ := at_T33 HR4_0.out x17_2 p5 q5
            cases e5
            replace hx5_0 := (HB.out.cell (World.block_lt_of_cell? w _ hx5_0)).trans hx5_0
            replace hx5_1 := (HB.out.cell (World.block_lt_of_cell? w _ hx5_1)).trans hx5_1
            replace p5 := eq_true p5
            replace q5 := eq_true q5
            go_wp2_with (first | ((with_reducible refine gate_dst (N := 7) rfl ?_); refine box_event ?hg (N := 7) ?hd (cs := #[.int .u32 0, .int .u32 0]) (t := 33) ?hr ?_; (case hd => rfl); (case hg => rfl); (case hr => first | (go_simp; done) | (go_simp; rfl)); intro gb6 hg w11 hbox hb; have n0_ := Aside0.mk (Kd.R_below (by (with_reducible repeat (first | apply Kd.R_alloc | apply Kd.R_drewN | apply Kd.R_drew)); exact HO_3.out) hb); have n1_ := Aside0.mk (below_step (by repeat (first | (with_reducible first | exact HB.out | apply below_alloc | apply pw_below_drewN | apply below_drew1) | exact HB.out)) hb); have n2_ := Aside0.mk (hbox); have n3_ := Aside0.mk ((by rw [hg]; exact (below_size (by repeat (first | (with_reducible first | exact HB.out | apply below_alloc | apply pw_below_drewN | apply below_drew1) | exact HB.out))) : w.heap.size ≤ gb6)); have n4_ := Aside0.mk ((by rw [hg]; exact (below_size (by repeat (first | (with_reducible first | exact HB.out | apply below_alloc | apply pw_below_drewN | apply below_drew1) | exact HB.out))) : w.heap.size ≤ gb6)); clear HO_3; clear HB; have HO_3 := n0_; have HB := n1_; have BK6 := n2_; have GW6 := n3_; have GE6 := n4_; clear n0_ n1_ n2_ n3_ n4_; clear hb hbox hg; have hcz12_0 : w11.cell? ⟨gb6, 0, none⟩ = some (.int .u32 0) := (blk_cell BK6.out 0).trans rfl; have hcz12_1 : w11.cell? ⟨gb6, 1, none⟩ = some (.int .u32 0) := (blk_cell BK6.out 1).trans rfl; have hfz12_0 := blk_frozen BK6.out 0; have hfz12_1 := blk_frozen BK6.out 1))
            go_roundg k2
            case measure => have := HK1.out; have := HK2.out; omega
            case rel => exact ⟨(x3_2), (wrap64 (x17_2 + 1)), (by first | rfl | (simp; done) | (simp [*]; done)), H', ⟨by have := HK1.out; have := HK2.out; omega⟩, ⟨by (with_reducible repeat (first | apply Kd.R_alloc | apply Kd.R_drewN | apply Kd.R_drew)); exact Kd.R_mono (Kd.R_far (p := ⟨gb6, 1, none⟩) (Kd.R_far (p := ⟨gb6, 0, none⟩) (Kd.R_types HO_3.out BK6.out (by decide)) (fun _ hk => hk.2) (.int .u32 ((rd_T33 (rd_L2 l0 x11_1) x17_2).f0))) (fun _ hk => hk.2) (.int .u32 ((rd_T33 (rd_L2 l0 x11_1) x17_2).f1))) (fun _ hk => trivial)⟩, ⟨by repeat (first | (with_reducible first | exact HB.out | apply below_alloc | apply pw_below_drewN | apply below_drew1 | refine below_set ?_ GE6.out) | exact HB.out)⟩⟩
           ·
            rw [if_neg c10] at H
            have c10b0 : decide (((rd_T33 (rd_L2 l0 x11_1) x17_2).f1) < ((rd_T33 (rd_L2 l0 x11_1) x17_2).f0)) = false := decide_eq_false c10
            clear c10
            replace H := Option.bind_eq_some_iff.mp H
            obtain ⟨t7, A130, H⟩ := H
            replace H : (if ((rd_T33 (rd_L2 l0 x11_1) x17_2).f1) < 4294967295 then ((q10z.f k2 t7 ((((rd_T33 (rd_L2 l0 x11_1) x17_2).f1) + 1) % 4294967296)).bind fun t10 => (q11z.l1 k2 t10 l0 (l0.length : Int) x11_1 (rd_L2 l0 x11_1) ((rd_L2 l0 x11_1).length : Int) (wrap64 (x17_2 + 1)))) else (q11z.l1 k2 t7 l0 (l0.length : Int) x11_1 (rd_L2 l0 x11_1) ((rd_L2 l0 x11_1).length : Int) (wrap64 (x17_2 + 1)))) = some r := H
            have A13 := Aside0.mk A130
            clear A130
            by_cases c14 : ((rd_T33 (rd_L2 l0 x11_1) x17_2).f1) < 4294967295
            ·
             rw [if_pos c14] at H
             have c14b0 : decide (((rd_T33 (rd_L2 l0 x11_1) x17_2).f1) < 4294967295) = true := decide_eq_true c14
             clear c14
             replace H := Option.bind_eq_some_iff.mp H
             obtain ⟨t10, A150, H⟩ := H
             replace H : (q11z.l1 k2 t10 l0 (l0.length : Int) x11_1 (rd_L2 l0 x11_1) ((rd_L2 l0 x11_1).length : Int) (wrap64 (x17_2 + 1))) = some r := H
             have A15 := Aside0.mk A150
             clear A150
             have H' := Aside0.mk H
             clear H
             have p5 : 0 ≤ (x17_2 : Int) := of_decide_eq_true (by first | (with_reducible assumption) | assumption)
             have q5 : x17_2 < ((rd_L2 l0 x11_1).length : Int) := of_decide_eq_true (by first | (with_reducible assumption) | assumption)
             obtain ⟨ad5, e5, hx5_0, hx5_1⟩ := at_T33 HR4_0.out x17_2 p5 q5
             cases e5
             replace hx5_0 := (HB.out.cell (World.block_lt_of_cell? w _ hx5_0)).trans hx5_0
             replace hx5_1 := (HB.out.cell (World.block_lt_of_cell? w _ hx5_1)).trans hx5_1
             replace p5 := eq_true p5
             replace q5 := eq_true q5
             go_wp2_with (first | ((with_reducible refine gate_dst (N := 7) rfl ?_); refine box_event ?hg (N := 7) ?hd (cs := #[.int .u32 0, .int .u32 0]) (t := 33) ?hr ?_; (case hd => rfl); (case hg => rfl); (case hr => first | (go_simp; done) | (go_simp; rfl)); intro gb6 hg w16 hbox hb; have n0_ := Aside0.mk (Kd.R_below (by (with_reducible repeat (first | apply Kd.R_alloc | apply Kd.R_drewN | apply Kd.R_drew)); exact HO_3.out) hb); have n1_ := Aside0.mk (below_step (by repeat (first | (with_reducible first | exact HB.out | apply below_alloc | apply pw_below_drewN | apply below_drew1) | exact HB.out)) hb); have n2_ := Aside0.mk (hbox); have n3_ := Aside0.mk ((by rw [hg]; exact (below_size (by repeat (first | (with_reducible first | exact HB.out | apply below_alloc | apply pw_below_drewN | apply below_drew1) | exact HB.out))) : w.heap.size ≤ gb6)); have n4_ := Aside0.mk ((by rw [hg]; exact (below_size (by repeat (first | (with_reducible first | exact HB.out | apply below_alloc | apply pw_below_drewN | apply below_drew1) | exact HB.out))) : w.heap.size ≤ gb6)); clear HO_3; clear HB; have HO_3 := n0_; have HB := n1_; have BK6 := n2_; have GW6 := n3_; have GE6 := n4_; clear n0_ n1_ n2_ n3_ n4_; clear hb hbox hg; have hcz17_0 : w16.cell? ⟨gb6, 0, none⟩ = some (.int .u32 0) := (blk_cell BK6.out 0).trans rfl; have hcz17_1 : w16.cell? ⟨gb6, 1, none⟩ = some (.int .u32 0) := (blk_cell BK6.out 1).trans rfl; have hfz17_0 := blk_frozen BK6.out 0; have hfz17_1 := blk_frozen BK6.out 1) | ((with_reducible refine gate_store (t := 33) (p := 7) rfl ?_); refine store_event (t := 33) (p := 7) (v := ?vo_w18) (w1 := ((w16.setCell ⟨gb6, 0, none⟩ (.int .u32 ((rd_T33 (rd_L2 l0 x11_1) x17_2).f0))).setCell ⟨gb6, 1, none⟩ (.int .u32 ((rd_T33 (rd_L2 l0 x11_1) x17_2).f1)))) ?hg ?ho ?hn ?hr ?_; (case ho => rfl); (case hg => rfl); (case hn => rfl); (case hr => first | (go_simp; done) | (go_simp; rfl)); intro w18 hw; have n0_ : Aside0 (Kd.R (Kd.int .u32) 29 w18 w.heap.size (fun _ => True) u3 x3_2) := ⟨(by rw [hw]; exact (by (with_reducible repeat (first | apply Kd.R_alloc | apply Kd.R_drewN | apply Kd.R_drew)); exact Kd.R_mono (Kd.R_far (p := ⟨gb6, 1, none⟩) (Kd.R_far (p := ⟨gb6, 0, none⟩) (Kd.R_types HO_3.out BK6.out (by decide)) (fun _ hk => hk.2) (.int .u32 ((rd_T33 (rd_L2 l0 x11_1) x17_2).f0))) (fun _ hk => hk.2) (.int .u32 ((rd_T33 (rd_L2 l0 x11_1) x17_2).f1))) (fun _ hk => trivial)))⟩; have n1_ : Aside0 (w18.heap[gb6]? = some (.cells #[.int .u32 ((rd_T33 (rd_L2 l0 x11_1) x17_2).f0), .int .u32 ((rd_T33 (rd_L2 l0 x11_1) x17_2).f1)] 33 (0, 0))) := ⟨(by rw [hw]; exact (by (with_reducible repeat (first | refine blk_drewN ?_ _ | refine blk_drew ?_ | refine blk_alloc ?_ _)); refine blk_put (cs := #[.int .u32 ((rd_T33 (rd_L2 l0 x11_1) x17_2).f0), .int .u32 0]) ?_ 1 _ rfl; (with_reducible repeat (first | refine blk_drewN ?_ _ | refine blk_drew ?_ | refine blk_alloc ?_ _)); refine blk_put (cs := #[.int .u32 0, .int .u32 0]) ?_ 0 _ rfl; (with_reducible repeat (first | refine blk_drewN ?_ _ | refine blk_drew ?_ | refine blk_alloc ?_ _)); exact BK6.out))⟩; have n2_ : Aside0 (Below w.heap.size w w18) := ⟨(by rw [hw]; exact (by repeat (first | (with_reducible first | exact HB.out | apply below_alloc | apply pw_below_drewN | apply below_drew1 | refine below_set ?_ GE6.out) | exact HB.out)))⟩; clear hw; clear HO_3; clear BK6; clear HB; have HO_3 := n0_; have BK6 := n1_; have HB := n2_; clear n0_ n1_ n2_; have hcz19_0 : w18.cell? ⟨gb6, 0, none⟩ = some (.int .u32 ((rd_T33 (rd_L2 l0 x11_1) x17_2).f0)) := (blk_cell BK6.out 0).trans rfl; have hcz19_1 : w18.cell? ⟨gb6, 1, none⟩ = some (.int .u32 ((rd_T33 (rd_L2 l0 x11_1) x17_2).f1)) := (blk_cell BK6.out 1).trans rfl; have hfz19_0 := blk_frozen BK6.out 0; have hfz19_1 := blk_frozen BK6.out 1; obtain ⟨Ao20, co20, eo20⟩ := Kd.R_slice HO_3.out; subst eo20) | ((with_reducible refine gate_callee (f := 35) rfl ?_); refine goesL_ (some 29) rfl rfl Try.func35 (by kernel_rfl) rfl #[.slice Ao20 x3_2.length co20, .int .u32 ((rd_T33 (rd_L2 l0 x11_1) x17_2).f0)] rfl (by (try simp only [List.map_toArray, List.map_cons, List.map_nil]); first | done | rfl | (simp only [List.length_drop, List.length_take]; rfl)) ?_; (with_reducible refine (q10z.calls k2 (fun k_ => some k_ = (.slice Ao20 x3_2.length co20 : Value).ownBlock) (.slice Ao20 x3_2.length co20) x3_2 ((rd_T33 (rd_L2 l0 x11_1) x17_2).f0) t7 w _ ?side1 ?side2 A13.out).mono ?_); (case side1 => repeat (first | (with_reducible first | exact HB.out | apply below_alloc | apply pw_below_drewN | apply below_drew1 | refine below_set ?_ GE6.out) | exact HB.out)); (case side2 => exact Kd.R_tight rfl HO_3.out); rintro e w21 ⟨v8, rfl, ho0, hb, hkp⟩; refine ⟨_, rfl, ?_⟩; have n0_ := Aside0.mk (blk_kept (by (with_reducible repeat (first | refine blk_drewN ?_ _ | refine blk_drew ?_ | refine blk_alloc ?_ _)); exact BK6.out) hkp (fun hs_ => (fun e_ => (Kd.R_ne HO_3.out BK6.out (by decide)) e_) hs_)); have n1_ := Aside0.mk (Kd.R_mono (ok' := fun k_ => True) ho0 (fun k_ hk_ => trivial)); have n2_ := Aside0.mk (hb); clear BK6; clear HB; clear HO_3; have BK6 := n0_; have HO9 := n1_; have HB := n2_; clear n0_ n1_ n2_; (try clear hb); (try clear hkp); (try clear ho0); have hcz22_0 : w21.cell? ⟨gb6, 0, none⟩ = some (.int .u32 ((rd_T33 (rd_L2 l0 x11_1) x17_2).f0)) := (blk_cell BK6.out 0).trans rfl; have hcz22_1 : w21.cell? ⟨gb6, 1, none⟩ = some (.int .u32 ((rd_T33 (rd_L2 l0 x11_1) x17_2).f1)) := (blk_cell BK6.out 1).trans rfl; have hfz22_0 := blk_frozen BK6.out 0; have hfz22_1 := blk_frozen BK6.out 1; obtain ⟨Ao23, co23, eo23⟩ := Kd.R_slice HO9.out; subst eo23) | ((with_reducible refine gate_callee (f := 35) rfl ?_); refine goesL_ (some 37) rfl rfl Try.func35 (by kernel_rfl) rfl #[.slice Ao23 t7.length co23, .int .u32 ((((rd_T33 (rd_L2 l0 x11_1) x17_2).f1) + 1) % 4294967296)] rfl (by (try simp only [List.map_toArray, List.map_cons, List.map_nil]); first | done | rfl | (simp only [List.length_drop, List.length_take]; rfl)) ?_; (with_reducible refine (q10z.calls k2 (fun k_ => some k_ = (.slice Ao23 t7.length co23 : Value).ownBlock) (.slice Ao23 t7.length co23) t7 ((((rd_T33 (rd_L2 l0 x11_1) x17_2).f1) + 1) % 4294967296) t10 w _ ?side1 ?side2 A15.out).mono ?_); (case side1 => repeat (first | (with_reducible first | exact HB.out | apply below_alloc | apply pw_below_drewN | apply below_drew1 | refine below_set ?_ GE6.out) | exact HB.out)); (case side2 => exact Kd.R_tight rfl HO9.out); rintro e w24 ⟨v11, rfl, ho0, hb, hkp⟩; refine ⟨_, rfl, ?_⟩; have n0_ := Aside0.mk (blk_kept (by (with_reducible repeat (first | refine blk_drewN ?_ _ | refine blk_drew ?_ | refine blk_alloc ?_ _)); exact BK6.out) hkp (fun hs_ => (fun e_ => (Kd.R_ne HO9.out BK6.out (by decide)) e_) hs_)); have n1_ := Aside0.mk (Kd.R_mono (ok' := fun k_ => True) ho0 (fun k_ hk_ => trivial)); have n2_ := Aside0.mk (hb); clear BK6; clear HB; clear HO9; have BK6 := n0_; have HO12 := n1_; have HB := n2_; clear n0_ n1_ n2_; (try clear hb); (try clear hkp); (try clear ho0)))
             go_roundg k2
             case measure => have := HK1.out; have := HK2.out; omega
             case rel => exact ⟨(t10), (wrap64 (x17_2 + 1)), (by first | rfl | (simp; done) | (simp [*]; done)), H', ⟨by have := HK1.out; have := HK2.out; omega⟩, ⟨by (with_reducible repeat (first | apply Kd.R_alloc | apply Kd.R_drewN | apply Kd.R_drew)); exact HO12.out⟩, ⟨by repeat (first | (with_reducible first | exact HB.out | apply below_alloc | apply pw_below_drewN | apply below_drew1 | refine below_set ?_ GE6.out) | exact HB.out)⟩⟩
            ·
             rw [if_neg c14] at H
             have c14b0 : decide (((rd_T33 (rd_L2 l0 x11_1) x17_2).f1) < 4294967295) = false := decide_eq_false c14
             clear c14
             have H' := Aside0.mk H
             clear H
             have p5 : 0 ≤ (x17_2 : Int) := of_decide_eq_true (by first | (with_reducible assumption) | assumption)
             have q5 : x17_2 < ((rd_L2 l0 x11_1).length : Int) := of_decide_eq_true (by first | (with_reducible assumption) | assumption)
             obtain ⟨ad5, e5, hx5_0, hx5_1⟩ := at_T33 HR4_0.out x17_2 p5 q5
             cases e5
             replace hx5_0 := (HB.out.cell (World.block_lt_of_cell? w _ hx5_0)).trans hx5_0
             replace hx5_1 := (HB.out.cell (World.block_lt_of_cell? w _ hx5_1)).trans hx5_1
             replace p5 := eq_true p5
             replace q5 := eq_true q5
             go_wp2_with (first | ((with_reducible refine gate_dst (N := 7) rfl ?_); refine box_event ?hg (N := 7) ?hd (cs := #[.int .u32 0, .int .u32 0]) (t := 33) ?hr ?_; (case hd => rfl); (case hg => rfl); (case hr => first | (go_simp; done) | (go_simp; rfl)); intro gb6 hg w25 hbox hb; have n0_ := Aside0.mk (Kd.R_below (by (with_reducible repeat (first | apply Kd.R_alloc | apply Kd.R_drewN | apply Kd.R_drew)); exact HO_3.out) hb); have n1_ := Aside0.mk (below_step (by repeat (first | (with_reducible first | exact HB.out | apply below_alloc | apply pw_below_drewN | apply below_drew1) | exact HB.out)) hb); have n2_ := Aside0.mk (hbox); have n3_ := Aside0.mk ((by rw [hg]; exact (below_size (by repeat (first | (with_reducible first | exact HB.out | apply below_alloc | apply pw_below_drewN | apply below_drew1) | exact HB.out))) : w.heap.size ≤ gb6)); have n4_ := Aside0.mk ((by rw [hg]; exact (below_size (by repeat (first | (with_reducible first | exact HB.out | apply below_alloc | apply pw_below_drewN | apply below_drew1) | exact HB.out))) : w.heap.size ≤ gb6)); clear HO_3; clear HB; have HO_3 := n0_; have HB := n1_; have BK6 := n2_; have GW6 := n3_; have GE6 := n4_; clear n0_ n1_ n2_ n3_ n4_; clear hb hbox hg; have hcz26_0 : w25.cell? ⟨gb6, 0, none⟩ = some (.int .u32 0) := (blk_cell BK6.out 0).trans rfl; have hcz26_1 : w25.cell? ⟨gb6, 1, none⟩ = some (.int .u32 0) := (blk_cell BK6.out 1).trans rfl; have hfz26_0 := blk_frozen BK6.out 0; have hfz26_1 := blk_frozen BK6.out 1) | ((with_reducible refine gate_store (t := 33) (p := 7) rfl ?_); refine store_event (t := 33) (p := 7) (v := ?vo_w27) (w1 := ((w25.setCell ⟨gb6, 0, none⟩ (.int .u32 ((rd_T33 (rd_L2 l0 x11_1) x17_2).f0))).setCell ⟨gb6, 1, none⟩ (.int .u32 ((rd_T33 (rd_L2 l0 x11_1) x17_2).f1)))) ?hg ?ho ?hn ?hr ?_; (case ho => rfl); (case hg => rfl); (case hn => rfl); (case hr => first | (go_simp; done) | (go_simp; rfl)); intro w27 hw; have n0_ : Aside0 (Kd.R (Kd.int .u32) 29 w27 w.heap.size (fun _ => True) u3 x3_2) := ⟨(by rw [hw]; exact (by (with_reducible repeat (first | apply Kd.R_alloc | apply Kd.R_drewN | apply Kd.R_drew)); exact Kd.R_mono (Kd.R_far (p := ⟨gb6, 1, none⟩) (Kd.R_far (p := ⟨gb6, 0, none⟩) (Kd.R_types HO_3.out BK6.out (by decide)) (fun _ hk => hk.2) (.int .u32 ((rd_T33 (rd_L2 l0 x11_1) x17_2).f0))) (fun _ hk => hk.2) (.int .u32 ((rd_T33 (rd_L2 l0 x11_1) x17_2).f1))) (fun _ hk => trivial)))⟩; have n1_ : Aside0 (w27.heap[gb6]? = some (.cells #[.int .u32 ((rd_T33 (rd_L2 l0 x11_1) x17_2).f0), .int .u32 ((rd_T33 (rd_L2 l0 x11_1) x17_2).f1)] 33 (0, 0))) := ⟨(by rw [hw]; exact (by (with_reducible repeat (first | refine blk_drewN ?_ _ | refine blk_drew ?_ | refine blk_alloc ?_ _)); refine blk_put (cs := #[.int .u32 ((rd_T33 (rd_L2 l0 x11_1) x17_2).f0), .int .u32 0]) ?_ 1 _ rfl; (with_reducible repeat (first | refine blk_drewN ?_ _ | refine blk_drew ?_ | refine blk_alloc ?_ _)); refine blk_put (cs := #[.int .u32 0, .int .u32 0]) ?_ 0 _ rfl; (with_reducible repeat (first | refine blk_drewN ?_ _ | refine blk_drew ?_ | refine blk_alloc ?_ _)); exact BK6.out))⟩; have n2_ : Aside0 (Below w.heap.size w w27) := ⟨(by rw [hw]; exact (by repeat (first | (with_reducible first | exact HB.out | apply below_alloc | apply pw_below_drewN | apply below_drew1 | refine below_set ?_ GE6.out) | exact HB.out)))⟩; clear hw; clear HO_3; clear BK6; clear HB; have HO_3 := n0_; have BK6 := n1_; have HB := n2_; clear n0_ n1_ n2_; have hcz28_0 : w27.cell? ⟨gb6, 0, none⟩ = some (.int .u32 ((rd_T33 (rd_L2 l0 x11_1) x17_2).f0)) := (blk_cell BK6.out 0).trans rfl; have hcz28_1 : w27.cell? ⟨gb6, 1, none⟩ = some (.int .u32 ((rd_T33 (rd_L2 l0 x11_1) x17_2).f1)) := (blk_cell BK6.out 1).trans rfl; have hfz28_0 := blk_frozen BK6.out 0; have hfz28_1 := blk_frozen BK6.out 1; obtain ⟨Ao29, co29, eo29⟩ := Kd.R_slice HO_3.out; subst eo29) | ((with_reducible refine gate_callee (f := 35) rfl ?_); refine goesL_ (some 29) rfl rfl Try.func35 (by kernel_rfl) rfl #[.slice Ao29 x3_2.length co29, .int .u32 ((rd_T33 (rd_L2 l0 x11_1) x17_2).f0)] rfl (by (try simp only [List.map_toArray, List.map_cons, List.map_nil]); first | done | rfl | (simp only [List.length_drop, List.length_take]; rfl)) ?_; (with_reducible refine (q10z.calls k2 (fun k_ => some k_ = (.slice Ao29 x3_2.length co29 : Value).ownBlock) (.slice Ao29 x3_2.length co29) x3_2 ((rd_T33 (rd_L2 l0 x11_1) x17_2).f0) t7 w _ ?side1 ?side2 A13.out).mono ?_); (case side1 => repeat (first | (with_reducible first | exact HB.out | apply below_alloc | apply pw_below_drewN | apply below_drew1 | refine below_set ?_ GE6.out) | exact HB.out)); (case side2 => exact Kd.R_tight rfl HO_3.out); rintro e w30 ⟨v8, rfl, ho0, hb, hkp⟩; refine ⟨_, rfl, ?_⟩; have n0_ := Aside0.mk (blk_kept (by (with_reducible repeat (first | refine blk_drewN ?_ _ | refine blk_drew ?_ | refine blk_alloc ?_ _)); exact BK6.out) hkp (fun hs_ => (fun e_ => (Kd.R_ne HO_3.out BK6.out (by decide)) e_) hs_)); have n1_ := Aside0.mk (Kd.R_mono (ok' := fun k_ => True) ho0 (fun k_ hk_ => trivial)); have n2_ := Aside0.mk (hb); clear BK6; clear HB; clear HO_3; have BK6 := n0_; have HO9 := n1_; have HB := n2_; clear n0_ n1_ n2_; (try clear hb); (try clear hkp); (try clear ho0); have hcz31_0 : w30.cell? ⟨gb6, 0, none⟩ = some (.int .u32 ((rd_T33 (rd_L2 l0 x11_1) x17_2).f0)) := (blk_cell BK6.out 0).trans rfl; have hcz31_1 : w30.cell? ⟨gb6, 1, none⟩ = some (.int .u32 ((rd_T33 (rd_L2 l0 x11_1) x17_2).f1)) := (blk_cell BK6.out 1).trans rfl; have hfz31_0 := blk_frozen BK6.out 0; have hfz31_1 := blk_frozen BK6.out 1))
             go_roundg k2
             case measure => have := HK1.out; have := HK2.out; omega
             case rel => exact ⟨(t7), (wrap64 (x17_2 + 1)), (by first | rfl | (simp; done) | (simp [*]; done)), H', ⟨by have := HK1.out; have := HK2.out; omega⟩, ⟨by (with_reducible repeat (first | apply Kd.R_alloc | apply Kd.R_drewN | apply Kd.R_drew)); exact HO9.out⟩, ⟨by repeat (first | (with_reducible first | exact HB.out | apply below_alloc | apply pw_below_drewN | apply below_drew1 | refine below_set ?_ GE6.out) | exact HB.out)⟩⟩
          ·
           rw [if_neg c9] at H
           exact absurd H (by simp)
         ·
          rw [if_neg c8] at H
          exact absurd H (by simp)
        ·
         rw [if_neg c7] at H
         have c7b0 : decide (x17_2 < ((rd_L2 l0 x11_1).length : Int)) = false := decide_eq_false c7
         clear c7
         have H' := Aside0.mk H
         clear H
         go_wp2
         go_roundg k2
         case measure => have := HK1.out; have := HK2.out; omega
         case rel => exact ⟨(x3_2), (wrap64 (x11_1 + 1)), (by first | rfl | (simp; done) | (simp [*]; done)), H', ⟨by have := HK1.out; have := HK2.out; omega⟩, ⟨by (with_reducible repeat (first | apply Kd.R_alloc | apply Kd.R_drewN | apply Kd.R_drew)); exact HO_3.out⟩, ⟨by repeat (first | (with_reducible first | exact HB.out | apply below_alloc | apply pw_below_drewN | apply below_drew1) | exact HB.out)⟩⟩
     ·
      rw [if_neg c6] at H
      exact absurd H (by simp)
    ·
     rw [if_neg c5] at H
     exact absurd H (by simp)
   ·
    rw [if_neg c4] at H
    have c4b0 : decide (x11_1 < (l0.length : Int)) = false := decide_eq_false c4
    clear c4
    obtain rfl := Option.some.inj H
    go_wp2
    go_ret
    exact ⟨_, by first | rfl | (simp [errW_none, errW_some] <;> rfl) | (simp [*, errW_none, errW_some] <;> rfl), by (with_reducible repeat (first | apply Kd.R_alloc | apply Kd.R_drewN | apply Kd.R_drew)); exact HO_3.out, by repeat (first | (with_reducible first | exact HB.out | apply below_alloc | apply pw_below_drewN | apply below_drew1) | exact HB.out)⟩

end Go.Proofs.Ytconaifcjnpabaa.P

namespace Go.Proofs.Ytconaifcjnpabaa.P
open Go.RowKit Go.Proofs.YtconaifcjnpabaaW.PrintWords Go.Proofs.YtconaifcjnpabaaW.PrintLast Go.Proofs.YtconaifcjnpabaaW.PrintMore
attribute [local go_sem] max2_int min2_int max_two min_two max_three min_three max_four min_four
set_option linter.unusedVariables false
set_option linter.unusedSimpArgs false

/-! ### dragomanref01_end: function 25 -/
def q12z.f (l0 : List Int) (a1 : Int) : Option (Int) := if a1 = (wrap64 ((l0.length : Int) - 1)) then (some 4294967295) else (if 0 ≤ (wrap64 (a1 + 1)) then (if (wrap64 (a1 + 1)) < (l0.length : Int) then (some (((rd l0 (wrap64 (a1 + 1))) - 1) % 4294967296)) else (none)) else (none))
set_option maxHeartbeats 8000000 in
set_option maxRecDepth 100000 in
theorem q12z.calls (A0 : Option Addr) (c0 : Nat) (l0 : List Int) (a1 : Int) (r : Int) (w : World) (hr0 : Kd.C (Kd.int .u32) w A0 l0.length l0) (hc0 : l0.length ≤ c0) (h : q12z.f l0 a1 = some r) :
  Calls Try.prog 25 #[.slice A0 l0.length c0, .int .i64 a1] w fun e w' => e = .returned (.int .u32 r) ∧ Drawn0 w w' := by
 have HR0 := Aside0.mk hr0
 have HC0 := Aside0.mk hc0
 clear hr0 hc0
 have H : (if a1 = (wrap64 ((l0.length : Int) - 1)) then (some 4294967295) else (if 0 ≤ (wrap64 (a1 + 1)) then (if (wrap64 (a1 + 1)) < (l0.length : Int) then (some (((rd l0 (wrap64 (a1 + 1))) - 1) % 4294967296)) else (none)) else (none))) = some r := h
 clear h
 by_cases c3 : a1 = (wrap64 ((l0.length : Int) - 1))
 ·
  rw [if_pos c3] at H
  have c3b0 : (a1 == (wrap64 ((l0.length : Int) - 1))) = true := beq_iff_eq.mpr c3
  have c3b1 : (a1 != (wrap64 ((l0.length : Int) - 1))) = false := bne_eq_false_iff_eq.mpr c3
  clear c3
  obtain rfl := Option.some.inj H
  go_enter Try.func25, Try.ntmps25
  go_wp2
  go_ret
  exact ⟨by first | rfl | (simp; done) | (simp [*]; done), by repeat (first | exact Drawn0.refl _ | apply Drawn0.step)⟩
 ·
  rw [if_neg c3] at H
  have c3b0 : (a1 == (wrap64 ((l0.length : Int) - 1))) = false := beq_eq_false_iff_ne.mpr c3
  have c3b1 : (a1 != (wrap64 ((l0.length : Int) - 1))) = true := bne_iff_ne.mpr c3
  obtain ⟨ji4, hji4⟩ : ∃ j_ : Int, (wrap64 (a1 + 1)) = j_ := ⟨_, rfl⟩
  replace H : (if 0 ≤ (ji4) then (if (ji4) < (l0.length : Int) then (some (((rd l0 (ji4)) - 1) % 4294967296)) else (none)) else (none)) = some r := by first | (rw [hji4] at H; exact H) | (simp only [hji4] at H ⊢; exact H)
  have hji4w : (IntKind.i64.wrap (a1 + 1)) = ji4 := (i64_w _).trans hji4
  by_cases c5 : 0 ≤ (ji4)
  ·
   rw [if_pos c5] at H
   have c5b0 : decide (0 ≤ (ji4)) = true := decide_eq_true c5
   clear c5
   by_cases c6 : (ji4) < (l0.length : Int)
   ·
    rw [if_pos c6] at H
    have c6b0 : decide ((ji4) < (l0.length : Int)) = true := decide_eq_true c6
    clear c6
    obtain rfl := Option.some.inj H
    have p1 : 0 ≤ ((ji4) : Int) := of_decide_eq_true (by first | (with_reducible assumption) | assumption)
    have q1 : (ji4) < (l0.length : Int) := of_decide_eq_true (by first | (with_reducible assumption) | assumption)
    obtain ⟨ad1, e1, hx1_0⟩ := Kd.at_int HR0.out (ji4) p1 q1
    cases e1
    replace p1 := eq_true p1
    replace q1 := eq_true q1
    go_enter Try.func25, Try.ntmps25
    go_wp2
    go_ret
    exact ⟨by first | rfl | (simp; done) | (simp only [← hji4] <;> (first | rfl | simp)) | (simp [*]; done), by repeat (first | exact Drawn0.refl _ | apply Drawn0.step)⟩
   ·
    rw [if_neg c6] at H
    exact absurd H (by simp)
  ·
   rw [if_neg c5] at H
   exact absurd H (by simp)

end Go.Proofs.Ytconaifcjnpabaa.P

namespace Go.Proofs.Ytconaifcjnpabaa.P
open Go.RowKit Go.Proofs.YtconaifcjnpabaaW.PrintWords Go.Proofs.YtconaifcjnpabaaW.PrintMore
set_option linter.unusedVariables false
set_option linter.unusedSimpArgs false
theorem wr2 (i : Nat) (h : i < 1000000000) (h0 : 0 < i) : wrap64 ((i : Int) - 1) = ((i - 1 : Nat) : Int) := by rw [wr _ (by omega) (by omega)]; omega
theorem with_l1 (n : Int) (p : List Int) : ∀ (q s : List Int) (z : Int), p.length + q.length + s.length ≤ 1000000 →
    Ev (fun k => q10z.l1 k (p ++ q ++ [z] ++ s) n (p.length : Int) ((p.length + q.length : Nat) : Int)) (p ++ n :: (q ++ s)) := by
  intro q
  induction h : q.length generalizing q with
  | zero =>
    intro s z hl
    have hq : q = [] := List.length_eq_zero_iff.1 h
    subst hq
    refine Ev.step (f := fun _ => some (p ++ n :: ([] ++ s))) (fun k => ?_) (Ev.now _)
    simp only [q10z.l1]
    rw [if_neg (by omega), if_pos (by omega), if_pos (by simp; omega), Int.toNat_natCast]
    simp
  | succ m ih =>
    intro s z hl
    rcases List.eq_nil_or_concat q with rfl | ⟨q', y, rfl⟩
    · simp at h
    · rw [List.concat_eq_append] at *
      have hq' : q'.length = m := by simpa using h
      have e1 := ih q' hq' (y :: s) y (by simp only [List.length_cons]; omega)
      refine Ev.step (fun k => ?_) (r := p ++ n :: (q' ++ [y] ++ s)) (by
        have : p ++ n :: (q' ++ y :: s) = p ++ n :: (q' ++ [y] ++ s) := by simp
        rw [← this]
        exact e1)
      simp only [q10z.l1]
      have hw : wrap64 (((p.length + (m + 1) : Nat) : Int) - 1) = ((p.length + m : Nat) : Int) := by rw [wr _ (by omega) (by omega)]; omega
      have hr : rd (p ++ (q' ++ [y]) ++ [z] ++ s) ((p.length + m : Nat) : Int) = y := by
        rw [rdI _ _ (by simp; omega)]
        simp [List.getElem_append, hq']
      rw [if_pos (by omega), hw, if_pos (by omega), if_pos (by simp; omega), if_pos (by omega), if_pos (by simp; omega), hr, Int.toNat_natCast]
      congr 1
      have : p ++ (q' ++ [y]) ++ [z] ++ s = (p ++ q' ++ [y]) ++ (z :: s) := by simp
      rw [this, List.set_append_right _ _ (by simp; omega)]
      have : p.length + (m + 1) - (p ++ q' ++ [y]).length = 0 := by simp; omega
      rw [this]
      simp
theorem with_l0 (l : List Int) (n : Int) (hl : l.length ≤ 900000) (r : List Int) : ∀ (q p : List Int), l = p ++ q → (∀ a ∈ p, a < n) →
    Ev (fun k => q10z.j1 k l n (((p ++ q.takeWhile (fun a => decide (a < n))).length : Nat) : Int)) r → Ev (fun k => q10z.l0 k l n (p.length : Int)) r
  | [], p, hp, _, h => by
    rw [List.append_nil] at hp
    subst hp
    refine Ev.step (fun k => ?_) h
    simp only [q10z.l0]
    rw [if_neg (by omega), List.takeWhile_nil, List.append_nil]
  | a :: q, p, hp, hlt, h => by
    have hpl : p.length < l.length := by rw [hp]; simp
    have hr : rd l (p.length : Int) = a := by
      rw [rdI l _ hpl]
      simp [hp]
    by_cases ha : a < n
    · rw [List.takeWhile_cons_of_pos (by simpa using ha)] at h
      refine Ev.step (fun k => ?_) (with_l0 l n hl r q (p ++ [a]) (by rw [hp]; simp) (fun x hx => by
        rcases List.mem_append.1 hx with hx | hx
        · exact hlt x hx
        · rw [List.mem_singleton.1 hx]; exact ha) (by rw [List.append_assoc, List.singleton_append]; exact h))
      simp only [q10z.l0]
      rw [if_pos (by omega), if_pos (by omega), hr, if_pos ha, wr1 _ (by omega), List.length_append, List.length_singleton]
    · rw [List.takeWhile_cons_of_neg (by simpa using ha), List.append_nil] at h
      refine Ev.step (fun k => ?_) h
      simp only [q10z.l0]
      rw [if_pos (by omega), if_pos (by omega), hr, if_neg ha]
theorem with_ev (l : List Int) (n : Int) (hl : l.length ≤ 900000) : Ev (fun k => q10z.f k l n) (ins n l) := by
  refine Ev.congr (fun k => rfl) (with_l0 l n hl (ins n l) l [] rfl (fun a h => (List.not_mem_nil h).elim) ?_)
  rw [List.nil_append]
  have hs := ins_split n l
  unfold ins
  cases hd : l.dropWhile (fun a => decide (a < n)) with
  | nil =>
    rw [hd, List.append_nil] at hs
    simp only
    rw [← hs]
    refine Ev.step (fun k => ?_) (Ev.step (f := fun k => q10z.l1 k (l ++ [0]) n (l.length : Int) (l.length : Int)) (g := fun k => q10z.j2 k l n (l.length : Int) false) (fun k => ?_) ?_)
    · simp only [q10z.j1]
      rw [if_neg (by omega)]
    · simp only [q10z.j2]
      rw [if_neg (by simp), if_pos (by omega), Option.bind_some, wr _ (by simp only [List.length_append, List.length_singleton]; omega) (by simp only [List.length_append, List.length_singleton]; omega)]
      congr 1
      simp
    · have := with_l1 n l [] [] 0 (by simp; omega)
      simpa using this
  | cons a r =>
    rw [hd] at hs
    have hal : (l.takeWhile (fun a => decide (a < n))).length < l.length := by
      have := congrArg List.length hs
      simp only [List.length_append, List.length_cons] at this
      omega
    generalize hp : l.takeWhile (fun a => decide (a < n)) = p at hs hal ⊢
    have hr : rd l (p.length : Int) = a := by
      rw [rdI l _ hal]
      simp [hs]
    simp only
    by_cases ha : a = n
    · rw [if_pos ha]
      refine Ev.step (fun k => ?_) (Ev.step (f := fun _ => some l) (g := fun k => q10z.j2 k l n (p.length : Int) true) (fun k => ?_) (Ev.now _))
      · simp only [q10z.j1]
        rw [if_pos (by omega), if_pos (by omega), hr, ha]
        simp
      · simp only [q10z.j2]
        rw [if_pos trivial]
    · rw [if_neg ha]
      refine Ev.step (fun k => ?_) (Ev.step (f := fun k => q10z.l1 k (l ++ [0]) n (p.length : Int) (l.length : Int)) (g := fun k => q10z.j2 k l n (p.length : Int) false) (fun k => ?_) ?_)
      · simp only [q10z.j1]
        rw [if_pos (by omega), if_pos (by omega), hr, show (a == n) = false from by simpa using ha]
      · simp only [q10z.j2]
        rw [if_neg (by simp), if_pos (by omega), Option.bind_some, wr _ (by simp only [List.length_append, List.length_singleton]; omega) (by simp only [List.length_append, List.length_singleton]; omega)]
        congr 1
        simp
      · have h1 := with_l1 n p (a :: r) [] 0 (by have := congrArg List.length hs; simp only [List.length_append, List.length_cons, List.length_nil] at this ⊢; omega)
        have e1 : p ++ a :: r ++ [0] ++ [] = l ++ [0] := by rw [List.append_nil, ← hs]
        have e2 : p.length + (a :: r).length = l.length := by rw [← List.length_append, ← hs]
        rw [e1, e2] at h1
        rw [List.append_nil] at h1
        exact h1
theorem begins_l1 (L : List (List S33)) (l : List S33) (x11 : Int) (hl : l.length ≤ 100000) (hr : Rng l) (r : List Int) : ∀ (d i : Nat) (b : List Int), i + d = l.length → b.length + 2 * d ≤ 800000 →
    Ev (fun k => q11z.l0 k (cutS b (l.drop i)) L (L.length : Int) (wrap64 (x11 + 1))) r → Ev (fun k => q11z.l1 k b L (L.length : Int) x11 l (l.length : Int) (i : Int)) r
  | 0, i, b, hi, _, h => by
    rw [List.drop_eq_nil_of_le (by omega)] at h
    refine Ev.step (fun k => ?_) h
    simp only [q11z.l1]
    rw [if_neg (by omega), cutS]
  | d + 1, i, b, hi, hb, h => by
    have hil : i < l.length := by omega
    rw [List.drop_eq_getElem_cons hil] at h
    have hrd : rd_T33 l (i : Int) = l[i] := rdS l i hil
    have hs := hr l[i] (List.getElem_mem hil)
    generalize l[i] = s at hrd hs h
    unfold cutS at h
    have l1 := length_ins s.f0 b
    by_cases h1 : s.f0 > s.f1
    · rw [if_pos h1] at h
      refine Ev.step (fun k => ?_) (begins_l1 L l x11 hl hr r d (i + 1) b (by omega) (by omega) h)
      simp only [q11z.l1]
      rw [if_pos (by omega), if_pos (by omega), if_pos (by omega), hrd, if_pos h1, wr1 i (by omega)]
    · rw [if_neg h1] at h
      by_cases h2 : s.f1 < 4294967295
      · rw [if_pos h2] at h
        have l2 := length_ins (s.f1 + 1) (ins s.f0 b)
        refine Ev.step (fun k => ?_) (Ev.bind (with_ev b s.f0 (by omega)) (f := fun k t => if s.f1 < 4294967295 then ((q10z.f k t ((s.f1 + 1) % 4294967296)).bind fun t213 => (q11z.l1 k t213 L (L.length : Int) x11 l (l.length : Int) (wrap64 ((i : Int) + 1)))) else (q11z.l1 k t L (L.length : Int) x11 l (l.length : Int) (wrap64 ((i : Int) + 1)))) ?_)
        · simp only [q11z.l1]
          rw [if_pos (by omega), if_pos (by omega), if_pos (by omega), hrd, if_neg h1]
        · have hm : (s.f1 + 1) % 4294967296 = s.f1 + 1 := by omega
          simp only [if_pos h2, hm]
          refine Ev.bind (with_ev (ins s.f0 b) (s.f1 + 1) (by omega)) (f := fun k t => q11z.l1 k t L (L.length : Int) x11 l (l.length : Int) (wrap64 ((i : Int) + 1))) ?_
          rw [wr1 i (by omega)]
          exact begins_l1 L l x11 hl hr r d (i + 1) _ (by omega) (by omega) h
      · rw [if_neg h2] at h
        refine Ev.step (fun k => ?_) (Ev.bind (with_ev b s.f0 (by omega)) (f := fun k t => if s.f1 < 4294967295 then ((q10z.f k t ((s.f1 + 1) % 4294967296)).bind fun t213 => (q11z.l1 k t213 L (L.length : Int) x11 l (l.length : Int) (wrap64 ((i : Int) + 1)))) else (q11z.l1 k t L (L.length : Int) x11 l (l.length : Int) (wrap64 ((i : Int) + 1)))) ?_)
        · simp only [q11z.l1]
          rw [if_pos (by omega), if_pos (by omega), if_pos (by omega), hrd, if_neg h1]
        · simp only [if_neg h2]
          rw [wr1 i (by omega)]
          exact begins_l1 L l x11 hl hr r d (i + 1) _ (by omega) (by omega) h
theorem rdL (L : List (List S33)) (i : Nat) (h : i < L.length) : rd_L2 L (i : Int) = L[i] := by
  unfold rd_L2
  rw [Int.toNat_natCast, List.getD_eq_getElem?_getD, List.getElem?_eq_getElem h]
  rfl
theorem begins_l0 (L : List (List S33)) (hL : L.length ≤ 1000) (hr : ∀ l ∈ L, Rng l ∧ l.length ≤ 100000) : ∀ (d i : Nat) (b : List Int) (m : Nat), i + d = L.length → b.length + m ≤ 800000 → 2 * ((L.drop i).map List.length).sum ≤ m → Rising b →
    Ev (fun k => q11z.l0 k b L (L.length : Int) (i : Int)) (cutL b (L.drop i))
  | 0, i, b, m, hi, _, _, _ => by
    rw [List.drop_eq_nil_of_le (by omega)]
    refine Ev.step (f := fun _ => some b) (fun k => ?_) (Ev.now b)
    simp only [q11z.l0]
    rw [if_neg (by omega)]
  | d + 1, i, b, m, hi, hb, hm, hrb => by
    have hil : i < L.length := by omega
    rw [List.drop_eq_getElem_cons hil] at hm ⊢
    have hrl := hr L[i] (List.getElem_mem hil)
    rw [List.map_cons, List.sum_cons] at hm
    rw [cutL]
    obtain ⟨c1, _, c3⟩ := cutS_spec L[i] b hrb
    refine Ev.step (fun k => ?_) (begins_l1 L L[i] (i : Int) hrl.2 hrl.1 _ L[i].length 0 b (by omega) (by omega) (by
      rw [List.drop_zero, wr1 i (by omega)]
      exact begins_l0 L hL hr d (i + 1) _ (m - 2 * L[i].length) (by omega) (by omega) (by omega) c1))
    simp only [q11z.l0]
    rw [if_pos (by omega), if_pos (by omega), if_pos (by omega), rdL L i hil]
    rfl
theorem end_f (b : List Int) (i : Nat) (hi : i < b.length) (hb : b.length ≤ 900000) (hr : ∀ z ∈ b, 0 ≤ z ∧ z ≤ 4294967295) (hp : Rising b) (h0 : ∀ z ∈ b.drop 1, 0 < z) (g : Int → Bool) :
    q12z.f b (i : Int) = some (endOf ((b.drop (i + 1)).map (fun n => (n, g n)))) := by
  unfold q12z.f
  by_cases h : i + 1 = b.length
  · rw [if_pos (by rw [wr _ (by omega) (by omega)]; omega), List.drop_eq_nil_of_le (by omega)]
    rfl
  · have hlt : i + 1 < b.length := by omega
    rw [if_neg (by rw [wr _ (by omega) (by omega)]; omega), wr1 i (by omega), if_pos (by omega), if_pos (by omega), rdI b (i + 1) hlt, List.drop_eq_getElem_cons hlt]
    have hz := hr b[i + 1] (List.getElem_mem hlt)
    have hz0 : 0 < b[i + 1] := h0 _ (by
      have : b[i + 1] = (b.drop 1)[i]'(by simp; omega) := by simp [Nat.add_comm]
      rw [this]
      exact List.getElem_mem _)
    rw [List.map_cons]
    show some ((b[i + 1] - 1) % 4294967296) = some (b[i + 1] - 1)
    congr 1
    omega
end Go.Proofs.Ytconaifcjnpabaa.P

namespace Go.Proofs.Ytconaifcjnpabaa.P
open Go.RowKit Go.Proofs.YtconaifcjnpabaaW.PrintWords Go.Proofs.YtconaifcjnpabaaW.PrintMore
set_option linter.unusedVariables false
set_option linter.unusedSimpArgs false
/-! ### Set -/
/-! ### Meet -/
def meetL : Nat → List S33 → List S33 → List S33
  | f + 1, x :: a, y :: b => (if mx x.f0 y.f0 ≤ mn x.f1 y.f1 then [⟨mx x.f0 y.f0, mn x.f1 y.f1⟩] else []) ++ (if mn x.f1 y.f1 = 4294967295 then [] else if x.f1 = mn x.f1 y.f1 then meetL f a (y :: b) else meetL f (x :: a) b)
  | _, _, _ => []
theorem meetL_low : ∀ (f : Nat) (a b : List S33) (c : Int), (∀ s ∈ a, c ≤ s.f0) ∨ (∀ s ∈ b, c ≤ s.f0) → ∀ z ∈ meetL f a b, c ≤ z.f0
  | 0, a, b, c, _, z, hz => by simp [meetL] at hz
  | f + 1, [], b, c, _, z, hz => by simp [meetL] at hz
  | f + 1, x :: a, [], c, _, z, hz => by simp [meetL] at hz
  | f + 1, x :: a, y :: b, c, h, z, hz => by
    rw [meetL] at hz
    rcases List.mem_append.1 hz with hz | hz
    · split at hz
      · rw [List.mem_singleton.1 hz]
        show c ≤ mx x.f0 y.f0
        unfold mx
        rcases h with h | h
        · have := h x List.mem_cons_self; split <;> omega
        · have := h y List.mem_cons_self; split <;> omega
      · simp at hz
    · split at hz
      · simp at hz
      · split at hz
        · exact meetL_low f a (y :: b) c (h.imp (fun h s hs => h s (List.mem_cons_of_mem _ hs)) id) z hz
        · exact meetL_low f (x :: a) b c (h.imp id (fun h s hs => h s (List.mem_cons_of_mem _ hs))) z hz
theorem InS_above {l : List S33} {c n : Int} (h : ∀ s ∈ l, c < s.f0) (hn : n ≤ c) : InS l n = false := by
  cases hq : InS l n with
  | false => rfl
  | true =>
    obtain ⟨s, hs, hs0, _⟩ := (InS_iff _ _).1 hq
    have := h s hs
    omega
theorem meetL_nf : ∀ (f : Nat) (a b : List S33), a.length + b.length ≤ f → NF a → NF b → NF (meetL f a b) ∧ ∀ n, InS (meetL f a b) n = (InS a n && InS b n)
  | f, [], b, _, _, _ => by
    have : meetL f [] b = [] := by cases f <;> rfl
    rw [this]
    exact ⟨NF_nil, fun n => by simp [InS]⟩
  | f, x :: a, [], _, _, _ => by
    have : meetL f (x :: a) [] = [] := by cases f <;> rfl
    rw [this]
    exact ⟨NF_nil, fun n => by simp [InS]⟩
  | 0, x :: a, y :: b, h, _, _ => by simp at h
  | f + 1, x :: a, y :: b, h, ha, hb => by
    obtain ⟨hx, hxa, ha'⟩ := NF_cons.1 ha
    obtain ⟨hy, hyb, hb'⟩ := NF_cons.1 hb
    unfold Ok at hx hy
    have hmx : mx x.f0 y.f0 = x.f0 ∧ y.f0 ≤ x.f0 ∨ mx x.f0 y.f0 = y.f0 ∧ x.f0 < y.f0 := by unfold mx; split <;> omega
    have hmn : mn x.f1 y.f1 = x.f1 ∧ x.f1 ≤ y.f1 ∨ mn x.f1 y.f1 = y.f1 ∧ y.f1 < x.f1 := by unfold mn; split <;> omega
    rw [meetL]
    generalize mx x.f0 y.f0 = lo at hmx ⊢
    generalize mn x.f1 y.f1 = hi at hmn ⊢
    have hbox : ∀ (n : Int), InS (if lo ≤ hi then [(⟨lo, hi⟩ : S33)] else []) n = (inSpan n x && inSpan n y) := fun n => by
      rw [Bool.eq_iff_iff, Bool.and_eq_true, inSpan_iff, inSpan_iff]
      split
      · simp only [InS, List.any_cons, List.any_nil, Bool.or_false, inSpan_iff]
        omega
      · simp only [InS, List.any_nil]
        constructor
        · intro h; cases h
        · intro h; omega
    have hcons : ∀ (r : List S33), NF r → (∀ z ∈ r, hi + 1 < z.f0) → NF ((if lo ≤ hi then [(⟨lo, hi⟩ : S33)] else []) ++ r) := fun r h1 h2 => by
      split
      · exact NF_cons.2 ⟨⟨by show 0 ≤ lo; omega, by assumption, by show hi ≤ 4294967295; omega⟩, h2, h1⟩
      · exact h1
    have hin : ∀ n, (InS (x :: a) n && InS (y :: b) n) = ((inSpan n x && inSpan n y) || ((InS a n && InS (y :: b) n) || (InS (x :: a) n && InS b n))) := fun n => by
      rw [InS_cons, InS_cons]
      cases inSpan n x <;> cases inSpan n y <;> cases InS a n <;> cases InS b n <;> rfl
    by_cases hM : hi = 4294967295
    · rw [if_pos hM]
      refine ⟨hcons [] NF_nil (fun z hz => (List.not_mem_nil hz).elim), fun n => ?_⟩
      have e1 : a = [] := by
        cases a with
        | nil => rfl
        | cons z a => have h1 := hxa z List.mem_cons_self; have h2 := (NF_cons.1 ha').1; unfold Ok at h2; omega
      have e2 : b = [] := by
        cases b with
        | nil => rfl
        | cons z b => have h1 := hyb z List.mem_cons_self; have h2 := (NF_cons.1 hb').1; unfold Ok at h2; omega
      subst e1 e2
      rw [List.append_nil, hbox, hin]
      simp [InS]
    · rw [if_neg hM]
      by_cases hc : x.f1 = hi
      · rw [if_pos hc]
        obtain ⟨k1, k2⟩ := meetL_nf f a (y :: b) (by simp at h ⊢; omega) ha' hb
        refine ⟨hcons _ k1 (fun z hz => by have := meetL_low f a (y :: b) (x.f1 + 2) (.inl (fun s hs => by have := hxa s hs; omega)) z hz; omega), fun n => ?_⟩
        rw [InS_append, hbox, k2, hin]
        congr 1
        by_cases hn : n ≤ x.f1
        · rw [InS_above (c := y.f1 + 1) (n := n) hyb (by omega), Bool.and_false, Bool.or_false]
        · have : inSpan n x = false := by rw [Bool.eq_false_iff]; intro h; rw [inSpan_iff] at h; omega
          rw [InS_cons x a, this, Bool.false_or, InS_cons y b]
          cases InS a n <;> cases inSpan n y <;> cases InS b n <;> rfl
      · rw [if_neg hc]
        obtain ⟨k1, k2⟩ := meetL_nf f (x :: a) b (by simp at h ⊢; omega) ha hb'
        refine ⟨hcons _ k1 (fun z hz => by have := meetL_low f (x :: a) b (y.f1 + 2) (.inr (fun s hs => by have := hyb s hs; omega)) z hz; omega), fun n => ?_⟩
        rw [InS_append, hbox, k2, hin]
        congr 1
        by_cases hn : n ≤ y.f1
        · rw [InS_above (c := x.f1 + 1) (n := n) hxa (by omega), Bool.false_and, Bool.false_or]
        · have : inSpan n y = false := by rw [Bool.eq_false_iff]; intro h; rw [inSpan_iff] at h; omega
          rw [InS_cons y b, this, Bool.false_or, InS_cons x a]
          cases InS a n <;> cases inSpan n x <;> cases InS b n <;> rfl
theorem meetL_length : ∀ (f : Nat) (a b : List S33), (meetL f a b).length ≤ a.length + b.length
  | 0, a, b => by simp [meetL]
  | f + 1, [], b => by simp [meetL]
  | f + 1, x :: a, [] => by simp [meetL]
  | f + 1, x :: a, y :: b => by
    have h1 := meetL_length f a (y :: b)
    have h2 := meetL_length f (x :: a) b
    rw [meetL, List.length_append]
    simp only [List.length_cons] at h1 h2 ⊢
    split <;> split <;> (try split) <;> simp <;> omega
theorem meet_l0 : ∀ (f : Nat) (a b out : List S33), a.length + b.length ≤ f → out.length + a.length + b.length ≤ 4000000 → Ev (fun k => q4z.l0 k a b out) (out ++ meetL f a b)
  | f, [], b, out, _, _ => by
    have : meetL f [] b = [] := by cases f <;> rfl
    rw [this, List.append_nil]
    refine Ev.step (fun k => ?_) (Ev.step (f := fun _ => some out) (g := fun k => q4z.j1 k [] b out false) (fun k => ?_) (Ev.now out))
    · simp only [q4z.l0]
      rw [if_neg (by simp)]
    · simp only [q4z.j1]
      rw [if_neg (by simp)]
  | f, x :: a, [], out, _, _ => by
    have : meetL f (x :: a) [] = [] := by cases f <;> rfl
    rw [this, List.append_nil]
    refine Ev.step (fun k => ?_) (Ev.step (f := fun _ => some out) (g := fun k => q4z.j1 k (x :: a) [] out false) (fun k => ?_) (Ev.now out))
    · simp only [q4z.l0]
      rw [if_pos (by simp only [List.length_cons]; omega)]
      rfl
    · simp only [q4z.j1]
      rw [if_neg (by simp)]
  | 0, x :: a, y :: b, out, h, _ => by simp at h
  | f + 1, x :: a, y :: b, out, h, ho => by
    have rx : rd_T33 (x :: a) 0 = x := rfl
    have ry : rd_T33 (y :: b) 0 = y := rfl
    have lx : (0 : Int) < ((x :: a).length : Int) := by simp only [List.length_cons]; omega
    have ly : (0 : Int) < ((y :: b).length : Int) := by simp only [List.length_cons]; omega
    have dx : (x :: a).drop (1 : Int).toNat = a := rfl
    have dy : (y :: b).drop (1 : Int).toNat = b := rfl
    simp only [List.length_cons] at h ho
    rw [meetL, ← List.append_assoc]
    have hj : ∀ o : List S33, o.length ≤ out.length + 1 → Ev (fun k => q4z.j2 k (x :: a) (y :: b) o (mn x.f1 y.f1)) (o ++ (if mn x.f1 y.f1 = 4294967295 then [] else if x.f1 = mn x.f1 y.f1 then meetL f a (y :: b) else meetL f (x :: a) b)) := fun o hoo => by
      by_cases hM : mn x.f1 y.f1 = 4294967295
      · rw [if_pos hM, List.append_nil]
        refine Ev.step (f := fun _ => some o) (fun k => ?_) (Ev.now o)
        simp only [q4z.j2]
        rw [if_pos hM]
      · rw [if_neg hM]
        by_cases hc : x.f1 = mn x.f1 y.f1
        · rw [if_pos hc]
          refine Ev.step (fun k => ?_) (meet_l0 f a (y :: b) o (by simp only [List.length_cons]; omega) (by simp only [List.length_cons]; omega))
          simp only [q4z.j2]
          rw [if_neg hM, if_pos lx, rx, if_pos hc, if_pos (by omega), dx]
        · rw [if_neg hc]
          refine Ev.step (fun k => ?_) (meet_l0 f (x :: a) b o (by simp only [List.length_cons]; omega) (by simp only [List.length_cons]; omega))
          simp only [q4z.j2]
          rw [if_neg hM, if_pos lx, rx, if_neg hc, if_pos (by omega), dy]
    refine Ev.step (f := fun k => q4z.j1 k (x :: a) (y :: b) out true) (fun k => ?_) ?_
    · simp only [q4z.l0]
      rw [if_pos (by omega), decide_eq_true (show ((y :: b).length : Int) > 0 from ly)]
    · by_cases hl : mx x.f0 y.f0 ≤ mn x.f1 y.f1
      · rw [if_pos hl]
        refine Ev.step (fun k => ?_) (hj (out ++ [⟨mx x.f0 y.f0, mn x.f1 y.f1⟩]) (by simp))
        simp only [q4z.j1]
        rw [if_pos trivial, if_pos lx, if_pos ly, rx, ry, if_pos hl, if_pos (by omega)]
      · rw [if_neg hl, List.append_nil]
        refine Ev.step (fun k => ?_) (hj out (by omega))
        simp only [q4z.j1]
        rw [if_pos trivial, if_pos lx, if_pos ly, rx, ry, if_neg hl]
theorem meet_ev (a b : List S33) (hal : a.length ≤ 1000000) (hbl : b.length ≤ 1000000) (ha : Rng a) (hb : Rng b) : ∃ r, Ev (fun k => q4z.f k a b) r ∧ NF r ∧ (∀ n, InS r n = (InS a n && InS b n)) ∧ r.length ≤ a.length + b.length := by
  obtain ⟨t, h1, h2, h3, h4⟩ := norm_ev a hal ha
  obtain ⟨u, k1, k2, k3, k4⟩ := norm_ev b hbl hb
  obtain ⟨p1, p2⟩ := meetL_nf (t.length + u.length) t u (Nat.le_refl _) h2 k2
  refine ⟨meetL (t.length + u.length) t u, ?_, p1, fun n => by rw [p2, h3, k3], Nat.le_trans (meetL_length _ t u) (by omega)⟩
  refine Ev.bind h1 (f := fun k t => (q2z.f k b).bind fun u => q4z.l0 k t u []) (Ev.bind k1 (f := fun k u => q4z.l0 k t u []) ?_)
  have := meet_l0 (t.length + u.length) t u [] (Nat.le_refl _) (by simp only [List.length_nil]; omega)
  rwa [List.nil_append] at this
/-! ### Union -/
end Go.Proofs.Ytconaifcjnpabaa.P

namespace Go.Proofs.Ytconaifcjnpabaa.P
open Go.RowKit Go.Proofs.YtconaifcjnpabaaW.PrintWords Go.Proofs.YtconaifcjnpabaaW.PrintLast Go.Proofs.YtconaifcjnpabaaW.PrintMore
attribute [local go_sem] max2_int min2_int max_two min_two max_three min_three max_four min_four
set_option linter.unusedVariables false
set_option linter.unusedSimpArgs false

/-! ### dragomanref01_Atoms: function 12 -/
mutual
def q13z.l0 : Nat → List (List (S33)) → List Int → List (S33) → List Int → Int → Int → Option ((List (S33)))
 | 0, _, _, _, _, _, _ => none
 | k + 1, x0, x3, x4, x12, x13, x14 => if x14 < x13 then (if 0 ≤ x14 then (if x14 < (x12.length : Int) then (q13z.l1 k x0 x3 x4 x14 (rd x12 x14) (decide (x14 > 0)) x12 x13 x14 x0 (x0.length : Int) 0) else (none)) else (none)) else (some x4)
def q13z.l1 : Nat → List (List (S33)) → List Int → List (S33) → Int → Int → Bool → List Int → Int → Int → List (List (S33)) → Int → Int → Option ((List (S33)))
 | 0, _, _, _, _, _, _, _, _, _, _, _, _ => none
 | k + 1, x0, x3, x4, x5, x6, x7, x12, x13, x14, x21, x22, x23 => if x23 < x22 then (if 0 ≤ x23 then (if x23 < (x21.length : Int) then (if x5 > 0 then ((q8z.f k (rd_L2 x21 x23) x6).bind fun t6 => (if 0 ≤ (wrap64 (x5 - 1)) then (if (wrap64 (x5 - 1)) < (x3.length : Int) then ((q8z.f k (rd_L2 x21 x23) (rd x3 (wrap64 (x5 - 1)))).bind fun t8 => (if (t6 != t8) = true then (q13z.l1 k x0 x3 x4 x5 x6 false x12 x13 x14 x21 x22 (wrap64 (x23 + 1))) else (q13z.l1 k x0 x3 x4 x5 x6 x7 x12 x13 x14 x21 x22 (wrap64 (x23 + 1))))) else (none)) else (none))) else (q13z.l1 k x0 x3 x4 x5 x6 x7 x12 x13 x14 x21 x22 (wrap64 (x23 + 1)))) else (none)) else (none)) else (if x7 = true then ((q12z.f x3 x5).bind fun t9 => (if 0 ≤ (wrap64 ((x4.length : Int) - 1)) then (if (wrap64 ((x4.length : Int) - 1)) < (x4.length : Int) then (q13z.l0 k x0 x3 (x4.set ((wrap64 ((x4.length : Int) - 1)) : Int).toNat (⟨(rd_T33 x4 (wrap64 ((x4.length : Int) - 1))).f0, t9⟩ : S33)) x12 x13 (wrap64 (x14 + 1))) else (none)) else (none))) else ((q12z.f x3 x5).bind fun t11 => (if x4.length < 17592186044416 then (q13z.l0 k x0 x3 (x4 ++ [(⟨x6, t11⟩ : S33)]) x12 x13 (wrap64 (x14 + 1))) else (none))))
end
def q13z.f (k : Nat) (l0 : List (List (S33))) : Option ((List (S33))) := (q11z.f k l0).bind fun t1 => (q13z.l0 k l0 t1 ([] : List (S33)) t1 (t1.length : Int) 0)
theorem q13z.mono_l : ∀ k, (∀ y0 y1 y2 y3 y4 y5, LeO (q13z.l0 k y0 y1 y2 y3 y4 y5) (q13z.l0 (k + 1) y0 y1 y2 y3 y4 y5)) ∧ (∀ y0 y1 y2 y3 y4 y5 y6 y7 y8 y9 y10 y11, LeO (q13z.l1 k y0 y1 y2 y3 y4 y5 y6 y7 y8 y9 y10 y11) (q13z.l1 (k + 1) y0 y1 y2 y3 y4 y5 y6 y7 y8 y9 y10 y11))
 | 0 => ⟨fun _ _ _ _ _ _ r h => by simp [q13z.l0] at h, fun _ _ _ _ _ _ _ _ _ _ _ _ r h => by simp [q13z.l1] at h⟩
 | k + 1 => by
  obtain ⟨ih0, ih1⟩ := q13z.mono_l k
  refine ⟨?_, ?_⟩
  ·
   intro y0 y1 y2 y3 y4 y5
   unfold q13z.l0
   repeat' first
   | (with_reducible exact ih0 _ _ _ _ _ _)
   | (with_reducible exact ih1 _ _ _ _ _ _ _ _ _ _ _ _)
   | (with_reducible exact q8z.mono _ _ _)
   | (with_reducible exact q11z.mono _ _)
   | (with_reducible exact LeO.refl _)
   | (with_reducible exact LeO.none _)
   | (with_reducible refine LeO.ite ?_ ?_)
   | (with_reducible refine LeO.bind ?_ (fun _ => ?_))
   | exact ih0 _ _ _ _ _ _
   | exact ih1 _ _ _ _ _ _ _ _ _ _ _ _
   | exact q8z.mono _ _ _
   | exact q11z.mono _ _
   | exact LeO.none _
   | refine LeO.ite ?_ ?_
   | refine LeO.bind ?_ (fun _ => ?_)
  ·
   intro y0 y1 y2 y3 y4 y5 y6 y7 y8 y9 y10 y11
   unfold q13z.l1
   repeat' first
   | (with_reducible exact ih0 _ _ _ _ _ _)
   | (with_reducible exact ih1 _ _ _ _ _ _ _ _ _ _ _ _)
   | (with_reducible exact q8z.mono _ _ _)
   | (with_reducible exact q11z.mono _ _)
   | (with_reducible exact LeO.refl _)
   | (with_reducible exact LeO.none _)
   | (with_reducible refine LeO.ite ?_ ?_)
   | (with_reducible refine LeO.bind ?_ (fun _ => ?_))
   | exact ih0 _ _ _ _ _ _
   | exact ih1 _ _ _ _ _ _ _ _ _ _ _ _
   | exact q8z.mono _ _ _
   | exact q11z.mono _ _
   | exact LeO.none _
   | refine LeO.ite ?_ ?_
   | refine LeO.bind ?_ (fun _ => ?_)
theorem q13z.mono : ∀ a0 k, LeO (q13z.f k a0) (q13z.f (k + 1) a0) := by
 intro a0 k
 obtain ⟨ih0, ih1⟩ := q13z.mono_l k
 unfold q13z.f
 repeat' first
   | (with_reducible exact ih0 _ _ _ _ _ _)
   | (with_reducible exact ih1 _ _ _ _ _ _ _ _ _ _ _ _)
   | (with_reducible exact q8z.mono _ _ _)
   | (with_reducible exact q11z.mono _ _)
   | (with_reducible exact LeO.refl _)
   | (with_reducible exact LeO.none _)
   | (with_reducible refine LeO.ite ?_ ?_)
   | (with_reducible refine LeO.bind ?_ (fun _ => ?_))
   | exact ih0 _ _ _ _ _ _
   | exact ih1 _ _ _ _ _ _ _ _ _ _ _ _
   | exact q8z.mono _ _ _
   | exact q11z.mono _ _
   | exact LeO.none _
   | refine LeO.ite ?_ ?_
   | refine LeO.bind ?_ (fun _ => ?_)
def q13z.T10 : Bool × List (List Nat × List Nat) := (true, [([], []), ([0], [0]), ([1], [1]), ([2], [2]), ([2], [2]), ([3, 4, 2, 2], [2, 3, 4]), ([2], [2]), ([2], [2]), ([2], [2]), ([8, 2], [2, 8]), ([7, 9, 2], [2, 7, 9]), ([10, 2], [2, 10]), ([6, 11, 5, 2], [2, 6, 11]), ([5, 12, 2], [2, 5, 12]), ([2, 13], [2, 13])])
def q13z.B10 : List Nat := [0, 1, 3, 7, 7, 31, 7, 7, 7, 263, 903, 1927, 4095, 8191, 16383]
theorem q13z.tab10 : rtab .any (opsOf Try.f12 10) = q13z.T10 := by kernel_rfl
theorem q13z.bits10 : waitsOk q13z.T10.2 q13z.B10 = true := by kernel_rfl
set_option maxHeartbeats 8000000 in
set_option maxRecDepth 100000 in
theorem q13z.calls (k : Nat) (A0 : Option Addr) (c0 : Nat) (l0 : List (List (S33))) (r : List (S33)) (w : World) (hr0 : Kd.C (Kd.slice 33 k33) w A0 l0.length l0) (hc0 : l0.length ≤ c0) (h : q13z.f k l0 = some r) :
  Calls Try.prog 12 #[.slice A0 l0.length c0] w fun e w' => ∃ v0_ : Value, e = .returned (v0_) ∧ Kd.R k33 33 w' w.heap.size (fun _ => True) v0_ r ∧ Below w.heap.size w w' := by
 have hu33 := Try.underlying33
 have HR0 := Aside0.mk hr0
 have HC0 := Aside0.mk hc0
 clear hr0 hc0
 have HB := Aside0.mk (Below.refl w.heap.size w)
 have H : ((q11z.f k l0).bind fun t1 => (q13z.l0 k l0 t1 ([] : List (S33)) t1 (t1.length : Int) 0)) = some r := h
 clear h
 replace H := Option.bind_eq_some_iff.mp H
 obtain ⟨t1, A20, H⟩ := H
 replace H : (q13z.l0 k l0 t1 ([] : List (S33)) t1 (t1.length : Int) 0) = some r := H
 have A2 := Aside0.mk A20
 clear A20
 have H' := Aside0.mk H
 clear H
 go_enter Try.func12, Try.ntmps12
 go_wp2_with (first | ((with_reducible refine gate_callee (f := 24) rfl ?_); refine goesL_ (some 11) rfl rfl Try.func24 (by kernel_rfl) rfl #[.slice A0 l0.length c0] rfl (by (try simp only [List.map_toArray, List.map_cons, List.map_nil]); first | done | rfl | (simp only [List.length_drop, List.length_take]; rfl)) ?_; (with_reducible refine (q11z.calls k _ _ l0 t1 _ ?side1 ?side2 A2.out).mono ?_); (case side1 => repeat (first | exact HR0.out | (with_reducible refine Kd.C_alloc ?_ _) | (with_reducible refine Kd.C_drewN ?_ _) | (with_reducible refine Kd.C_drew ?_))); (case side2 => exact HC0.out); rintro e w3 ⟨v2, rfl, ho0, hb⟩; refine ⟨_, rfl, ?_⟩; have n0_ := Aside0.mk (Kd.R_lower ho0 (below_size (by repeat (first | (with_reducible first | exact HB.out | apply below_alloc | apply pw_below_drewN | apply below_drew1) | exact HB.out)))); have n1_ := Aside0.mk (below_step (by repeat (first | (with_reducible first | exact HB.out | apply below_alloc | apply pw_below_drewN | apply below_drew1) | exact HB.out)) hb); clear HB; have HO3 := n0_; have HB := n1_; clear n0_ n1_; (try clear hb); (try clear hb2); (try clear hk); (try clear hi); (try clear ho0); obtain ⟨Ao4, co4, eo4⟩ := Kd.R_slice HO3.out; subst eo4))
 go_loopg [4, 14] k (fun kq v4 v14 w' => ∃ (x4_1 : List (S33)) (x14_1 : Int), v14 = .int .i64 x14_1 ∧ Aside0 (q13z.l0 kq l0 t1 x4_1 t1 (t1.length : Int) x14_1 = some r) ∧ Aside0 (kq ≤ k) ∧ Aside0 (Kd.R (Kd.int .u32) 29 w' w.heap.size (fun _ => True) (.slice Ao4 t1.length co4) t1) ∧ Aside0 (Kd.R k33 33 w' w.heap.size (fun _ => True) v4 x4_1) ∧ Aside0 (Kd.R (Kd.int .u32) 29 w' w.heap.size (fun _ => True) (.slice Ao4 t1.length co4) t1) ∧ Aside0 (Below w.heap.size w w'))
 case atStart => exact ⟨(([] : List (S33))), (0), (by first | rfl | (simp; done) | (simp [*]; done)), H', ⟨Nat.le_refl _⟩, ⟨by (with_reducible repeat (first | apply Kd.R_alloc | apply Kd.R_drewN | apply Kd.R_drew)); exact HO3.out⟩, ⟨by first | exact Kd.R_nil _ _ _ _ _ | exact Kd.N_nil _ _ _ _ _ | exact Kd.V_nil _ _ _ _ _ | exact Kd.Q_nil _ _ _ _ _ | exact Kd.S_nil _ _ _ _ _⟩, ⟨by (with_reducible repeat (first | apply Kd.R_alloc | apply Kd.R_drewN | apply Kd.R_drew)); exact HO3.out⟩, ⟨by repeat (first | (with_reducible first | exact HB.out | apply below_alloc | apply pw_below_drewN | apply below_drew1) | exact HB.out)⟩⟩
 case round =>
  clear H'
  try clear c1
  try clear c2
  try clear p2
  obtain ⟨x4_1, x14_1, rfl, HA, HK1, HO_3, HO_4, HO_12, HB⟩ := hrel
  cases gk with
  | zero => exact absurd HA.out (by simp [q13z.l0])
  | succ k1 =>
   have H := HA.out
   clear HA
   simp only [q13z.l0] at H
   by_cases c5 : x14_1 < (t1.length : Int)
   ·
    rw [if_pos c5] at H
    have c5b0 : decide (x14_1 < (t1.length : Int)) = true := decide_eq_true c5
    clear c5
    by_cases c6 : 0 ≤ x14_1
    ·
     rw [if_pos c6] at H
     have c6b0 : decide (0 ≤ x14_1) = true := decide_eq_true c6
     clear c6
     by_cases c7 : x14_1 < (t1.length : Int)
     ·
      rw [if_pos c7] at H
      have c7b0 : decide (x14_1 < (t1.length : Int)) = true := decide_eq_true c7
      clear c7
      have H' := Aside0.mk H
      clear H
      have p4 : 0 ≤ (x14_1 : Int) := of_decide_eq_true (by first | (with_reducible assumption) | assumption)
      have q4 : x14_1 < (t1.length : Int) := of_decide_eq_true (by first | (with_reducible assumption) | assumption)
      obtain ⟨ad4, e4, hx4_0⟩ := Kd.at_int (Kd.R_reads' HO_12.out).2.2 x14_1 p4 q4
      cases e4
      replace p4 := eq_true p4
      replace q4 := eq_true q4
      go_wp2
      obtain ⟨bi14, hbi14⟩ : ∃ b, b = decide (0 < x14_1) := ⟨_, rfl⟩
      rw [← hbi14]
      go_loopg [7, 23] k1 (fun kq v7 v23 w' => ∃ (x7_2 : Bool) (x23_2 : Int), v7 = .bool x7_2 ∧ v23 = .int .i64 x23_2 ∧ Aside0 (q13z.l1 kq l0 t1 x4_1 x14_1 (rd t1 x14_1) x7_2 t1 (t1.length : Int) x14_1 l0 (l0.length : Int) x23_2 = some r) ∧ Aside0 (kq ≤ k1) ∧ Aside0 (Kd.R (Kd.int .u32) 29 w' w.heap.size (fun _ => True) (.slice (some ad4) t1.length co4) t1) ∧ Aside0 (Kd.R k33 33 w' w.heap.size (fun _ => True) u4 x4_1) ∧ Aside0 (Kd.R (Kd.int .u32) 29 w' w.heap.size (fun _ => True) (.slice (some ad4) t1.length co4) t1) ∧ Aside0 (Below w.heap.size w w'))
      case atStart => exact ⟨(decide (x14_1 > 0)), (0), (by first | rfl | (simp; done) | (simp [*]; done)), (by first | rfl | (simp; done) | (simp [*]; done)), H', ⟨Nat.le_refl _⟩, ⟨by (with_reducible repeat (first | apply Kd.R_alloc | apply Kd.R_drewN | apply Kd.R_drew)); exact HO_3.out⟩, ⟨by (with_reducible repeat (first | apply Kd.R_alloc | apply Kd.R_drewN | apply Kd.R_drew)); exact HO_4.out⟩, ⟨by (with_reducible repeat (first | apply Kd.R_alloc | apply Kd.R_drewN | apply Kd.R_drew)); exact HO_12.out⟩, ⟨by repeat (first | (with_reducible first | exact HB.out | apply below_alloc | apply pw_below_drewN | apply below_drew1) | exact HB.out)⟩⟩
      case round =>
       clear hbi14
       clear H'
       try clear c1
       try clear c2
       try clear p2
       try clear p4
       try clear q4
       try clear hx4
       try clear c5
       try clear c5b0
       try clear c6
       try clear c6b0
       try clear c7
       try clear c7b0
       try clear hx4_0
       try clear p2
       try clear p4
       try clear q4
       obtain ⟨x7_2, x23_2, rfl, rfl, HA, HK2, HO_3, HO_4, HO_12, HB⟩ := hrel
       cases gk with
       | zero => exact absurd HA.out (by simp [q13z.l1])
       | succ k2 =>
        have H := HA.out
        clear HA
        simp only [q13z.l1] at H
        by_cases c8 : x23_2 < (l0.length : Int)
        ·
         rw [if_pos c8] at H
         have c8b0 : decide (x23_2 < (l0.length : Int)) = true := decide_eq_true c8
         clear c8
         by_cases c9 : 0 ≤ x23_2
         ·
          rw [if_pos c9] at H
          have c9b0 : decide (0 ≤ x23_2) = true := decide_eq_true c9
          clear c9
          by_cases c10 : x23_2 < (l0.length : Int)
          ·
           rw [if_pos c10] at H
           have c10b0 : decide (x23_2 < (l0.length : Int)) = true := decide_eq_true c10
           clear c10
           by_cases c11 : x14_1 > 0
           ·
            rw [if_pos c11] at H
            have c11b0 : decide (0 < x14_1) = true := decide_eq_true c11
            clear c11
            replace H := Option.bind_eq_some_iff.mp H
            obtain ⟨t6, A120, H⟩ := H
            replace H : (if 0 ≤ (wrap64 (x14_1 - 1)) then (if (wrap64 (x14_1 - 1)) < (t1.length : Int) then ((q8z.f k2 (rd_L2 l0 x23_2) (rd t1 (wrap64 (x14_1 - 1)))).bind fun t8 => (if (t6 != t8) = true then (q13z.l1 k2 l0 t1 x4_1 x14_1 (rd t1 x14_1) false t1 (t1.length : Int) x14_1 l0 (l0.length : Int) (wrap64 (x23_2 + 1))) else (q13z.l1 k2 l0 t1 x4_1 x14_1 (rd t1 x14_1) x7_2 t1 (t1.length : Int) x14_1 l0 (l0.length : Int) (wrap64 (x23_2 + 1))))) else (none)) else (none)) = some r := H
            have A12 := Aside0.mk A120
            clear A120
            obtain ⟨ji13, hji13⟩ : ∃ j_ : Int, (wrap64 (x14_1 - 1)) = j_ := ⟨_, rfl⟩
            replace H : (if 0 ≤ (ji13) then (if (ji13) < (t1.length : Int) then ((q8z.f k2 (rd_L2 l0 x23_2) (rd t1 (ji13))).bind fun t8 => (if (t6 != t8) = true then (q13z.l1 k2 l0 t1 x4_1 x14_1 (rd t1 x14_1) false t1 (t1.length : Int) x14_1 l0 (l0.length : Int) (wrap64 (x23_2 + 1))) else (q13z.l1 k2 l0 t1 x4_1 x14_1 (rd t1 x14_1) x7_2 t1 (t1.length : Int) x14_1 l0 (l0.length : Int) (wrap64 (x23_2 + 1))))) else (none)) else (none)) = some r := by first | (rw [hji13] at H; exact H) | (simp only [hji13] at H ⊢; exact H)
            (try rw [hji13] at A12)
            have hji13w : (IntKind.i64.wrap (x14_1 - 1)) = ji13 := (i64_w _).trans hji13
            by_cases c14 : 0 ≤ (ji13)
            ·
             rw [if_pos c14] at H
             have c14b0 : decide (0 ≤ (ji13)) = true := decide_eq_true c14
             clear c14
             by_cases c15 : (ji13) < (t1.length : Int)
             ·
              rw [if_pos c15] at H
              have c15b0 : decide ((ji13) < (t1.length : Int)) = true := decide_eq_true c15
              clear c15
              replace H := Option.bind_eq_some_iff.mp H
              obtain ⟨t8, A160, H⟩ := H
              replace H : (if (t6 != t8) = true then (q13z.l1 k2 l0 t1 x4_1 x14_1 (rd t1 x14_1) false t1 (t1.length : Int) x14_1 l0 (l0.length : Int) (wrap64 (x23_2 + 1))) else (q13z.l1 k2 l0 t1 x4_1 x14_1 (rd t1 x14_1) x7_2 t1 (t1.length : Int) x14_1 l0 (l0.length : Int) (wrap64 (x23_2 + 1)))) = some r := H
              have A16 := Aside0.mk A160
              clear A160
              by_cases c17 : (t6 != t8) = true
              ·
               rw [if_pos c17] at H
               have c17b0 : (t6 != t8) = true := c17
               (try (have c17b1 : decide (t6 = t8) = false := by simpa using c17))
               (try (have c17b2 : (t6 == t8) = false := by simpa using c17))
               (try (have c17b3 : ¬ (t6 = t8) := by simpa using c17))
               clear c17
               have H' := Aside0.mk H
               clear H
               have p5 : 0 ≤ (x23_2 : Int) := of_decide_eq_true (by first | (with_reducible assumption) | assumption)
               have q5 : x23_2 < (l0.length : Int) := of_decide_eq_true (by first | (with_reducible assumption) | assumption)
               obtain ⟨ad5, A5_0, c5_0, e5, hx5_0, hl5_0, hi5_0⟩ := at_L2 HR0.out x23_2 p5 q5
               cases e5
               replace hx5_0 := (HB.out.cell (World.block_lt_of_cell? w _ hx5_0)).trans hx5_0
               have HR5_0 := Aside0.mk hi5_0
               have HC5_0 := Aside0.mk hl5_0
               clear hi5_0 hl5_0
               replace p5 := eq_true p5
               replace q5 := eq_true q5
               try go_wp2
               have n0_ := Aside0.mk (Kd.R_drew HO_3.out)
               have n1_ := Aside0.mk (Kd.R_drew HO_4.out)
               have n2_ := Aside0.mk (Kd.R_drew HO_12.out)
               have n3_ := Aside0.mk (below_drew1 HB.out)
               clear HO_3
               clear HO_4
               clear HO_12
               clear HB
               have HO_3 := n0_
               have HO_4 := n1_
               have HO_12 := n2_
               have HB := n3_
               clear n0_ n1_ n2_ n3_
               have p7 : 0 ≤ ((ji13) : Int) := of_decide_eq_true (by first | (with_reducible assumption) | assumption)
               have q7 : (ji13) < (t1.length : Int) := of_decide_eq_true (by first | (with_reducible assumption) | assumption)
               obtain ⟨ad7, e7, hx7_0⟩ := Kd.at_int (Kd.R_reads' HO_3.out).2.2 (ji13) p7 q7
               obtain rfl : ad4 = ad7 := (by injection e7)
               replace p7 := eq_true p7
               replace q7 := eq_true q7
               refine start_ (n := 15) (S := fun w' => w'.cell? (ad4.add ((ji13)).toNat) = some (.int .u32 (rd t1 (ji13)))) (ds := []) #[false, false, false, false, false, false, false, false, false, false, false, false, false, false, false] (by kernel_rfl) rfl rfl (hx7_0) (fun hHeld => ?_); refine with_tabW q13z.tab10 q13z.bits10 (fun HT_ HW_ => ?_)
               generalize wr.drew = w18 at HO_3 HO_4 HO_12 HB hx7_0 hHeld ⊢
               refine pure_ (i := 0) (N := some 27) (v := ?_) (a' := ?_) #[true, false, false, false, false, false, false, false, false, false, false, false, false, false, false] rfl rfl (any_of HT_.out (by kernel_rfl)) (fun _ _ _ h => h) (Or.inl ⟨by rfl, ?_⟩) ?_ ?_
               rotate_left
               ·
                intro w'
                go_simp
                with_reducible rfl
               rotate_left
               ·
                simp only [Act.put, List.setIfInBounds_toArray, List.set_cons_zero, List.set_cons_succ, i64_w, i32_w, IntKind.wrap_u32]
                rfl
               refine pure_ (i := 1) (N := some 28) (v := ?_) (a' := ?_) #[true, true, false, false, false, false, false, false, false, false, false, false, false, false, false] rfl rfl (any_of HT_.out (by kernel_rfl)) (fun _ _ _ h => h) (Or.inl ⟨by rfl, ?_⟩) ?_ ?_
               rotate_left
               ·
                intro w'
                go_simp
                with_reducible rfl
               rotate_left
               ·
                simp only [Act.put, List.setIfInBounds_toArray, List.set_cons_zero, List.set_cons_succ, i64_w, i32_w, IntKind.wrap_u32]
                rfl
               refine pure_ (i := 2) (N := some 29) (v := ?_) (a' := ?_) #[true, true, true, false, false, false, false, false, false, false, false, false, false, false, false] rfl rfl (any_of HT_.out (by kernel_rfl)) (fun _ _ _ h => h) (Or.inl ⟨by rfl, ?_⟩) ?_ ?_
               rotate_left
               ·
                intro w'
                go_simp
                with_reducible rfl
               rotate_left
               ·
                simp only [Act.put, List.setIfInBounds_toArray, List.set_cons_zero, List.set_cons_succ, i64_w, i32_w, IntKind.wrap_u32]
                rfl
               refine pure_ (i := 3) (N := some 30) (v := ?_) (a' := ?_) #[true, true, true, true, false, false, false, false, false, false, false, false, false, false, false] rfl rfl (any_of HT_.out (by kernel_rfl)) (fun _ _ _ h => h) (Or.inl ⟨by rfl, ?_⟩) ?_ ?_
               rotate_left
               ·
                intro w'
                go_simp
                with_reducible rfl
               rotate_left
               ·
                simp only [Act.put, List.setIfInBounds_toArray, List.set_cons_zero, List.set_cons_succ, i64_w, i32_w, IntKind.wrap_u32]
                rfl
               refine pure_ (i := 4) (N := some 31) (v := ?_) (a' := ?_) #[true, true, true, true, true, false, false, false, false, false, false, false, false, false, false] rfl rfl (any_of HT_.out (by kernel_rfl)) (fun _ _ _ h => h) (Or.inl ⟨by rfl, ?_⟩) ?_ ?_
               rotate_left
               ·
                intro w'
                go_simp
                with_reducible rfl
               rotate_left
               ·
                simp only [Act.put, List.setIfInBounds_toArray, List.set_cons_zero, List.set_cons_succ, i64_w, i32_w, IntKind.wrap_u32]
                rfl
               refine pure_ (i := 6) (N := some 33) (v := ?_) (a' := ?_) #[true, true, true, true, true, false, true, false, false, false, false, false, false, false, false] rfl rfl (any_of HT_.out (by kernel_rfl)) (fun _ _ _ h => h) (Or.inl ⟨by rfl, ?_⟩) ?_ ?_
               rotate_left
               ·
                intro w'
                go_simp
                with_reducible rfl
               rotate_left
               ·
                simp only [Act.put, List.setIfInBounds_toArray, List.set_cons_zero, List.set_cons_succ, i64_w, i32_w, IntKind.wrap_u32]
                rfl
               refine pure_ (i := 7) (N := some 34) (v := ?_) (a' := ?_) #[true, true, true, true, true, false, true, true, false, false, false, false, false, false, false] rfl rfl (any_of HT_.out (by kernel_rfl)) (fun _ _ _ h => h) (Or.inl ⟨by rfl, ?_⟩) ?_ ?_
               rotate_left
               ·
                intro w'
                go_simp
                with_reducible rfl
               rotate_left
               ·
                simp only [Act.put, List.setIfInBounds_toArray, List.set_cons_zero, List.set_cons_succ, i64_w, i32_w, IntKind.wrap_u32]
                rfl
               refine pure_ (i := 8) (N := some 35) (v := ?_) (a' := ?_) #[true, true, true, true, true, false, true, true, true, false, false, false, false, false, false] rfl rfl (any_of HT_.out (by kernel_rfl)) (fun _ _ _ h => h) (Or.inl ⟨by rfl, ?_⟩) ?_ ?_
               rotate_left
               ·
                intro w'
                go_simp
                with_reducible rfl
               rotate_left
               ·
                simp only [Act.put, List.setIfInBounds_toArray, List.set_cons_zero, List.set_cons_succ, i64_w, i32_w, IntKind.wrap_u32]
                rfl
               refine pure_ (i := 9) (N := some 36) (v := ?_) (a' := ?_) #[true, true, true, true, true, false, true, true, true, true, false, false, false, false, false] rfl rfl (any_of HT_.out (by kernel_rfl)) (fun _ _ _ h => h) (Or.inl ⟨by rfl, ?_⟩) ?_ ?_
               rotate_left
               ·
                intro w'
                go_simp
                with_reducible rfl
               rotate_left
               ·
                simp only [Act.put, List.setIfInBounds_toArray, List.set_cons_zero, List.set_cons_succ, i64_w, i32_w, IntKind.wrap_u32]
                rfl
               refine pure_ (i := 10) (N := some 37) (v := ?_) (a' := ?_) #[true, true, true, true, true, false, true, true, true, true, true, false, false, false, false] rfl rfl (any_of HT_.out (by kernel_rfl)) (fun _ _ _ h => h) (Or.inl ⟨by rfl, ?_⟩) ?_ ?_
               rotate_left
               ·
                intro w'
                go_simp
                with_reducible rfl
               rotate_left
               ·
                simp only [Act.put, List.setIfInBounds_toArray, List.set_cons_zero, List.set_cons_succ, i64_w, i32_w, IntKind.wrap_u32]
                rfl
               refine take_ (i := 11) (N := some 38) (v := ?_) (a' := ?_) #[true, true, true, true, true, false, true, true, true, true, true, true, false, false, false] rfl rfl (take_ofW HT_.out HW_.out (by kernel_rfl)) (fun _ _ _ h => h) (Or.inl ⟨by rfl, ?_⟩) hHeld ?_ ?_
               rotate_left
               ·
                intro w' s0
                go_simp
                with_reducible rfl
               rotate_left
               ·
                simp only [Act.put, List.setIfInBounds_toArray, List.set_cons_zero, List.set_cons_succ, i64_w, i32_w, IntKind.wrap_u32]
                rfl
               refine one_ (i := 5) (N := some 32) #[true, true, true, true, true, true, true, true, true, true, true, true, false, false, false] rfl rfl (one_of HT_.out (by kernel_rfl)) (by decide) (fun K hK => ?_)
               refine goes_ Try.func17 (by kernel_rfl) rfl #[.slice A5_0 (rd_L2 l0 x23_2).length c5_0, .int .u32 (rd t1 x14_1)] (by rfl) rfl rfl (by (try simp only [List.map_toArray, List.map_cons, List.map_nil]); first | done | rfl | (simp only [List.length_drop, List.length_take]; rfl)) ?_
               with_reducible refine (q8z.calls k2 _ _ (rd_L2 l0 x23_2) (rd t1 x14_1) t6 _ ?side1 ?side2 A12.out).mono ?_
               (case side1 => repeat (first | exact (Kd.C_below HR5_0.out HB.out) | (with_reducible refine Kd.C_alloc ?_ _) | (with_reducible refine Kd.C_drewN ?_ _) | (with_reducible refine Kd.C_drew ?_)))
               (case side2 => exact HC5_0.out)
               rintro e w19 ⟨rfl, hb⟩
               have HS0_ := (hb.cell (World.block_lt_of_cell? _ _ (hHeld))).trans (hHeld)
               refine ⟨_, rfl, ?_⟩
               have n0_ := Aside0.mk (Kd.R_below (by (with_reducible repeat (first | apply Kd.R_alloc | apply Kd.R_drewN | apply Kd.R_drew)); exact HO_3.out) hb)
               have n1_ := Aside0.mk (Kd.R_below (by (with_reducible repeat (first | apply Kd.R_alloc | apply Kd.R_drewN | apply Kd.R_drew)); exact HO_4.out) hb)
               have n2_ := Aside0.mk (Kd.R_below (by (with_reducible repeat (first | apply Kd.R_alloc | apply Kd.R_drewN | apply Kd.R_drew)); exact HO_12.out) hb)
               have n3_ := Aside0.mk (below_step (by repeat (first | (with_reducible first | exact HB.out | apply below_alloc | apply pw_below_drewN | apply below_drew1) | exact HB.out)) hb)
               clear HO_3
               clear HO_4
               clear HO_12
               clear HB
               have HO_3 := n0_
               have HO_4 := n1_
               have HO_12 := n2_
               have HB := n3_
               clear n0_ n1_ n2_ n3_
               (try clear hb)
               (try clear hb2)
               (try clear hk)
               (try clear hi)
               refine hK.out _ _ (HS0_) (fun hHeld => ?_)
               clear hK K
               refine norm_ (a' := ?_) ?_ ?_
               rotate_left
               ·
                show Act.put _ (some 32) _ = _
                simp only [Act.put, List.setIfInBounds_toArray, List.set_cons_zero, List.set_cons_succ, i64_w, i32_w, IntKind.wrap_u32]
                rfl
               refine one_ (i := 12) (N := some 39) #[true, true, true, true, true, true, true, true, true, true, true, true, true, false, false] rfl rfl (one_of HT_.out (by kernel_rfl)) (by decide) (fun K hK => ?_)
               refine goes_ Try.func17 (by kernel_rfl) rfl #[.slice A5_0 (rd_L2 l0 x23_2).length c5_0, .int .u32 (rd t1 (ji13))] (by rfl) rfl rfl (by (try simp only [List.map_toArray, List.map_cons, List.map_nil]); first | done | (simp only [hji13]; rfl) | rfl | (simp only [List.length_drop, List.length_take]; rfl)) ?_
               with_reducible refine (q8z.calls k2 _ _ (rd_L2 l0 x23_2) (rd t1 (ji13)) t8 _ ?side1 ?side2 A16.out).mono ?_
               (case side1 => repeat (first | exact (Kd.C_below HR5_0.out HB.out) | (with_reducible refine Kd.C_alloc ?_ _) | (with_reducible refine Kd.C_drewN ?_ _) | (with_reducible refine Kd.C_drew ?_)))
               (case side2 => exact HC5_0.out)
               rintro e w20 ⟨rfl, hb⟩
               have HS0_ := (hb.cell (World.block_lt_of_cell? _ _ (hHeld))).trans (hHeld)
               refine ⟨_, rfl, ?_⟩
               have n0_ := Aside0.mk (Kd.R_below (by (with_reducible repeat (first | apply Kd.R_alloc | apply Kd.R_drewN | apply Kd.R_drew)); exact HO_3.out) hb)
               have n1_ := Aside0.mk (Kd.R_below (by (with_reducible repeat (first | apply Kd.R_alloc | apply Kd.R_drewN | apply Kd.R_drew)); exact HO_4.out) hb)
               have n2_ := Aside0.mk (Kd.R_below (by (with_reducible repeat (first | apply Kd.R_alloc | apply Kd.R_drewN | apply Kd.R_drew)); exact HO_12.out) hb)
               have n3_ := Aside0.mk (below_step (by repeat (first | (with_reducible first | exact HB.out | apply below_alloc | apply pw_below_drewN | apply below_drew1) | exact HB.out)) hb)
               clear HO_3
               clear HO_4
               clear HO_12
               clear HB
               have HO_3 := n0_
               have HO_4 := n1_
               have HO_12 := n2_
               have HB := n3_
               clear n0_ n1_ n2_ n3_
               (try clear hb)
               (try clear hb2)
               (try clear hk)
               (try clear hi)
               refine hK.out _ _ (HS0_) (fun hHeld => ?_)
               clear hK K
               refine norm_ (a' := ?_) ?_ ?_
               rotate_left
               ·
                show Act.put _ (some 39) _ = _
                simp only [Act.put, List.setIfInBounds_toArray, List.set_cons_zero, List.set_cons_succ, i64_w, i32_w, IntKind.wrap_u32]
                rfl
               refine pure_ (i := 13) (N := some 40) (v := ?_) (a' := ?_) #[true, true, true, true, true, true, true, true, true, true, true, true, true, true, false] rfl rfl (any_of HT_.out (by kernel_rfl)) (fun _ _ _ h => h) (Or.inl ⟨by rfl, ?_⟩) ?_ ?_
               rotate_left
               ·
                intro w'
                go_simp
                with_reducible rfl
               rotate_left
               ·
                simp only [Act.put, List.setIfInBounds_toArray, List.set_cons_zero, List.set_cons_succ, i64_w, i32_w, IntKind.wrap_u32]
                rfl
               refine pure_ (i := 14) (N := some 41) (v := ?_) (a' := ?_) #[true, true, true, true, true, true, true, true, true, true, true, true, true, true, true] rfl rfl (any_of HT_.out (by kernel_rfl)) (fun _ _ _ h => h) (Or.inl ⟨by rfl, ?_⟩) ?_ ?_
               rotate_left
               ·
                intro w'
                go_simp
                with_reducible rfl
               rotate_left
               ·
                simp only [Act.put, List.setIfInBounds_toArray, List.set_cons_zero, List.set_cons_succ, i64_w, i32_w, IntKind.wrap_u32]
                rfl
               refine done_ (done_of HT_.out (by kernel_rfl)) ?_
               try go_wp2
               go_roundg k2
               case measure => have := HK1.out; have := HK2.out; omega
               case rel => exact ⟨(false), (wrap64 (x23_2 + 1)), (by first | rfl | (simp; done) | (simp [*]; done)), (by first | rfl | (simp; done) | (simp [*]; done)), H', ⟨by have := HK1.out; have := HK2.out; omega⟩, ⟨by (with_reducible repeat (first | apply Kd.R_alloc | apply Kd.R_drewN | apply Kd.R_drew)); exact HO_3.out⟩, ⟨by (with_reducible repeat (first | apply Kd.R_alloc | apply Kd.R_drewN | apply Kd.R_drew)); exact HO_4.out⟩, ⟨by (with_reducible repeat (first | apply Kd.R_alloc | apply Kd.R_drewN | apply Kd.R_drew)); exact HO_12.out⟩, ⟨by repeat (first | (with_reducible first | exact HB.out | apply below_alloc | apply pw_below_drewN | apply below_drew1) | exact HB.out)⟩⟩
              ·
               rw [if_neg c17] at H
               have c17b0 : (t6 != t8) = false := by simpa using c17
               (try (have c17b1 : decide (t6 = t8) = true := by simpa using c17))
               (try (have c17b2 : (t6 == t8) = true := by simpa using c17))
               clear c17
               have H' := Aside0.mk H
               clear H
               have p5 : 0 ≤ (x23_2 : Int) := of_decide_eq_true (by first | (with_reducible assumption) | assumption)
               have q5 : x23_2 < (l0.length : Int) := of_decide_eq_true (by first | (with_reducible assumption) | assumption)
               obtain ⟨ad5, A5_0, c5_0, e5, hx5_0, hl5_0, hi5_0⟩ := at_L2 HR0.out x23_2 p5 q5
               cases e5
               replace hx5_0 := (HB.out.cell (World.block_lt_of_cell? w _ hx5_0)).trans hx5_0
               have HR5_0 := Aside0.mk hi5_0
               have HC5_0 := Aside0.mk hl5_0
               clear hi5_0 hl5_0
               replace p5 := eq_true p5
               replace q5 := eq_true q5
               try go_wp2
               have n0_ := Aside0.mk (Kd.R_drew HO_3.out)
               have n1_ := Aside0.mk (Kd.R_drew HO_4.out)
               have n2_ := Aside0.mk (Kd.R_drew HO_12.out)
               have n3_ := Aside0.mk (below_drew1 HB.out)
               clear HO_3
               clear HO_4
               clear HO_12
               clear HB
               have HO_3 := n0_
               have HO_4 := n1_
               have HO_12 := n2_
               have HB := n3_
               clear n0_ n1_ n2_ n3_
               have p7 : 0 ≤ ((ji13) : Int) := of_decide_eq_true (by first | (with_reducible assumption) | assumption)
               have q7 : (ji13) < (t1.length : Int) := of_decide_eq_true (by first | (with_reducible assumption) | assumption)
               obtain ⟨ad7, e7, hx7_0⟩ := Kd.at_int (Kd.R_reads' HO_3.out).2.2 (ji13) p7 q7
               obtain rfl : ad4 = ad7 := (by injection e7)
               replace p7 := eq_true p7
               replace q7 := eq_true q7
               refine start_ (n := 15) (S := fun w' => w'.cell? (ad4.add ((ji13)).toNat) = some (.int .u32 (rd t1 (ji13)))) (ds := []) #[false, false, false, false, false, false, false, false, false, false, false, false, false, false, false] (by kernel_rfl) rfl rfl (hx7_0) (fun hHeld => ?_); refine with_tabW q13z.tab10 q13z.bits10 (fun HT_ HW_ => ?_)
               generalize wr.drew = w21 at HO_3 HO_4 HO_12 HB hx7_0 hHeld ⊢
               refine pure_ (i := 0) (N := some 27) (v := ?_) (a' := ?_) #[true, false, false, false, false, false, false, false, false, false, false, false, false, false, false] rfl rfl (any_of HT_.out (by kernel_rfl)) (fun _ _ _ h => h) (Or.inl ⟨by rfl, ?_⟩) ?_ ?_
               rotate_left
               ·
                intro w'
                go_simp
                with_reducible rfl
               rotate_left
               ·
                simp only [Act.put, List.setIfInBounds_toArray, List.set_cons_zero, List.set_cons_succ, i64_w, i32_w, IntKind.wrap_u32]
                rfl
               refine pure_ (i := 1) (N := some 28) (v := ?_) (a' := ?_) #[true, true, false, false, false, false, false, false, false, false, false, false, false, false, false] rfl rfl (any_of HT_.out (by kernel_rfl)) (fun _ _ _ h => h) (Or.inl ⟨by rfl, ?_⟩) ?_ ?_
               rotate_left
               ·
                intro w'
                go_simp
                with_reducible rfl
               rotate_left
               ·
                simp only [Act.put, List.setIfInBounds_toArray, List.set_cons_zero, List.set_cons_succ, i64_w, i32_w, IntKind.wrap_u32]
                rfl
               refine pure_ (i := 2) (N := some 29) (v := ?_) (a' := ?_) #[true, true, true, false, false, false, false, false, false, false, false, false, false, false, false] rfl rfl (any_of HT_.out (by kernel_rfl)) (fun _ _ _ h => h) (Or.inl ⟨by rfl, ?_⟩) ?_ ?_
               rotate_left
               ·
                intro w'
                go_simp
                with_reducible rfl
               rotate_left
               ·
                simp only [Act.put, List.setIfInBounds_toArray, List.set_cons_zero, List.set_cons_succ, i64_w, i32_w, IntKind.wrap_u32]
                rfl
               refine pure_ (i := 3) (N := some 30) (v := ?_) (a' := ?_) #[true, true, true, true, false, false, false, false, false, false, false, false, false, false, false] rfl rfl (any_of HT_.out (by kernel_rfl)) (fun _ _ _ h => h) (Or.inl ⟨by rfl, ?_⟩) ?_ ?_
               rotate_left
               ·
                intro w'
                go_simp
                with_reducible rfl
               rotate_left
               ·
                simp only [Act.put, List.setIfInBounds_toArray, List.set_cons_zero, List.set_cons_succ, i64_w, i32_w, IntKind.wrap_u32]
                rfl
               refine pure_ (i := 4) (N := some 31) (v := ?_) (a' := ?_) #[true, true, true, true, true, false, false, false, false, false, false, false, false, false, false] rfl rfl (any_of HT_.out (by kernel_rfl)) (fun _ _ _ h => h) (Or.inl ⟨by rfl, ?_⟩) ?_ ?_
               rotate_left
               ·
                intro w'
                go_simp
                with_reducible rfl
               rotate_left
               ·
                simp only [Act.put, List.setIfInBounds_toArray, List.set_cons_zero, List.set_cons_succ, i64_w, i32_w, IntKind.wrap_u32]
                rfl
               refine pure_ (i := 6) (N := some 33) (v := ?_) (a' := ?_) #[true, true, true, true, true, false, true, false, false, false, false, false, false, false, false] rfl rfl (any_of HT_.out (by kernel_rfl)) (fun _ _ _ h => h) (Or.inl ⟨by rfl, ?_⟩) ?_ ?_
               rotate_left
               ·
                intro w'
                go_simp
                with_reducible rfl
               rotate_left
               ·
                simp only [Act.put, List.setIfInBounds_toArray, List.set_cons_zero, List.set_cons_succ, i64_w, i32_w, IntKind.wrap_u32]
                rfl
               refine pure_ (i := 7) (N := some 34) (v := ?_) (a' := ?_) #[true, true, true, true, true, false, true, true, false, false, false, false, false, false, false] rfl rfl (any_of HT_.out (by kernel_rfl)) (fun _ _ _ h => h) (Or.inl ⟨by rfl, ?_⟩) ?_ ?_
               rotate_left
               ·
                intro w'
                go_simp
                with_reducible rfl
               rotate_left
               ·
                simp only [Act.put, List.setIfInBounds_toArray, List.set_cons_zero, List.set_cons_succ, i64_w, i32_w, IntKind.wrap_u32]
                rfl
               refine pure_ (i := 8) (N := some 35) (v := ?_) (a' := ?_) #[true, true, true, true, true, false, true, true, true, false, false, false, false, false, false] rfl rfl (any_of HT_.out (by kernel_rfl)) (fun _ _ _ h => h) (Or.inl ⟨by rfl, ?_⟩) ?_ ?_
               rotate_left
               ·
                intro w'
                go_simp
                with_reducible rfl
               rotate_left
               ·
                simp only [Act.put, List.setIfInBounds_toArray, List.set_cons_zero, List.set_cons_succ, i64_w, i32_w, IntKind.wrap_u32]
                rfl
               refine pure_ (i := 9) (N := some 36) (v := ?_) (a' := ?_) #[true, true, true, true, true, false, true, true, true, true, false, false, false, false, false] rfl rfl (any_of HT_.out (by kernel_rfl)) (fun _ _ _ h => h) (Or.inl ⟨by rfl, ?_⟩) ?_ ?_
               rotate_left
               ·
                intro w'
                go_simp
                with_reducible rfl
               rotate_left
               ·
                simp only [Act.put, List.setIfInBounds_toArray, List.set_cons_zero, List.set_cons_succ, i64_w, i32_w, IntKind.wrap_u32]
                rfl
               refine pure_ (i := 10) (N := some 37) (v := ?_) (a' := ?_) #[true, true, true, true, true, false, true, true, true, true, true, false, false, false, false] rfl rfl (any_of HT_.out (by kernel_rfl)) (fun _ _ _ h => h) (Or.inl ⟨by rfl, ?_⟩) ?_ ?_
               rotate_left
               ·
                intro w'
                go_simp
                with_reducible rfl
               rotate_left
               ·
                simp only [Act.put, List.setIfInBounds_toArray, List.set_cons_zero, List.set_cons_succ, i64_w, i32_w, IntKind.wrap_u32]
                rfl
               refine take_ (i := 11) (N := some 38) (v := ?_) (a' := ?_) #[true, true, true, true, true, false, true, true, true, true, true, true, false, false, false] rfl rfl (take_ofW HT_.out HW_.out (by kernel_rfl)) (fun _ _ _ h => h) (Or.inl ⟨by rfl, ?_⟩) hHeld ?_ ?_
               rotate_left
               ·
                intro w' s0
                go_simp
                with_reducible rfl
               rotate_left
               ·
                simp only [Act.put, List.setIfInBounds_toArray, List.set_cons_zero, List.set_cons_succ, i64_w, i32_w, IntKind.wrap_u32]
                rfl
               refine one_ (i := 5) (N := some 32) #[true, true, true, true, true, true, true, true, true, true, true, true, false, false, false] rfl rfl (one_of HT_.out (by kernel_rfl)) (by decide) (fun K hK => ?_)
               refine goes_ Try.func17 (by kernel_rfl) rfl #[.slice A5_0 (rd_L2 l0 x23_2).length c5_0, .int .u32 (rd t1 x14_1)] (by rfl) rfl rfl (by (try simp only [List.map_toArray, List.map_cons, List.map_nil]); first | done | rfl | (simp only [List.length_drop, List.length_take]; rfl)) ?_
               with_reducible refine (q8z.calls k2 _ _ (rd_L2 l0 x23_2) (rd t1 x14_1) t6 _ ?side1 ?side2 A12.out).mono ?_
               (case side1 => repeat (first | exact (Kd.C_below HR5_0.out HB.out) | (with_reducible refine Kd.C_alloc ?_ _) | (with_reducible refine Kd.C_drewN ?_ _) | (with_reducible refine Kd.C_drew ?_)))
               (case side2 => exact HC5_0.out)
               rintro e w22 ⟨rfl, hb⟩
               have HS0_ := (hb.cell (World.block_lt_of_cell? _ _ (hHeld))).trans (hHeld)
               refine ⟨_, rfl, ?_⟩
               have n0_ := Aside0.mk (Kd.R_below (by (with_reducible repeat (first | apply Kd.R_alloc | apply Kd.R_drewN | apply Kd.R_drew)); exact HO_3.out) hb)
               have n1_ := Aside0.mk (Kd.R_below (by (with_reducible repeat (first | apply Kd.R_alloc | apply Kd.R_drewN | apply Kd.R_drew)); exact HO_4.out) hb)
               have n2_ := Aside0.mk (Kd.R_below (by (with_reducible repeat (first | apply Kd.R_alloc | apply Kd.R_drewN | apply Kd.R_drew)); exact HO_12.out) hb)
               have n3_ := Aside0.mk (below_step (by repeat (first | (with_reducible first | exact HB.out | apply below_alloc | apply pw_below_drewN | apply below_drew1) | exact HB.out)) hb)
               clear HO_3
               clear HO_4
               clear HO_12
               clear HB
               have HO_3 := n0_
               have HO_4 := n1_
               have HO_12 := n2_
               have HB := n3_
               clear n0_ n1_ n2_ n3_
               (try clear hb)
               (try clear hb2)
               (try clear hk)
               (try clear hi)
               refine hK.out _ _ (HS0_) (fun hHeld => ?_)
               clear hK K
               refine norm_ (a' := ?_) ?_ ?_
               rotate_left
               ·
                show Act.put _ (some 32) _ = _
                simp only [Act.put, List.setIfInBounds_toArray, List.set_cons_zero, List.set_cons_succ, i64_w, i32_w, IntKind.wrap_u32]
                rfl
               refine one_ (i := 12) (N := some 39) #[true, true, true, true, true, true, true, true, true, true, true, true, true, false, false] rfl rfl (one_of HT_.out (by kernel_rfl)) (by decide) (fun K hK => ?_)
               refine goes_ Try.func17 (by kernel_rfl) rfl #[.slice A5_0 (rd_L2 l0 x23_2).length c5_0, .int .u32 (rd t1 (ji13))] (by rfl) rfl rfl (by (try simp only [List.map_toArray, List.map_cons, List.map_nil]); first | done | (simp only [hji13]; rfl) | rfl | (simp only [List.length_drop, List.length_take]; rfl)) ?_
               with_reducible refine (q8z.calls k2 _ _ (rd_L2 l0 x23_2) (rd t1 (ji13)) t8 _ ?side1 ?side2 A16.out).mono ?_
               (case side1 => repeat (first | exact (Kd.C_below HR5_0.out HB.out) | (with_reducible refine Kd.C_alloc ?_ _) | (with_reducible refine Kd.C_drewN ?_ _) | (with_reducible refine Kd.C_drew ?_)))
               (case side2 => exact HC5_0.out)
               rintro e w23 ⟨rfl, hb⟩
               have HS0_ := (hb.cell (World.block_lt_of_cell? _ _ (hHeld))).trans (hHeld)
               refine ⟨_, rfl, ?_⟩
               have n0_ := Aside0.mk (Kd.R_below (by (with_reducible repeat (first | apply Kd.R_alloc | apply Kd.R_drewN | apply Kd.R_drew)); exact HO_3.out) hb)
               have n1_ := Aside0.mk (Kd.R_below (by (with_reducible repeat (first | apply Kd.R_alloc | apply Kd.R_drewN | apply Kd.R_drew)); exact HO_4.out) hb)
               have n2_ := Aside0.mk (Kd.R_below (by (with_reducible repeat (first | apply Kd.R_alloc | apply Kd.R_drewN | apply Kd.R_drew)); exact HO_12.out) hb)
               have n3_ := Aside0.mk (below_step (by repeat (first | (with_reducible first | exact HB.out | apply below_alloc | apply pw_below_drewN | apply below_drew1) | exact HB.out)) hb)
               clear HO_3
               clear HO_4
               clear HO_12
               clear HB
               have HO_3 := n0_
               have HO_4 := n1_
               have HO_12 := n2_
               have HB := n3_
               clear n0_ n1_ n2_ n3_
               (try clear hb)
               (try clear hb2)
               (try clear hk)
               (try clear hi)
               refine hK.out _ _ (HS0_) (fun hHeld => ?_)
               clear hK K
               refine norm_ (a' := ?_) ?_ ?_
               rotate_left
               ·
                show Act.put _ (some 39) _ = _
                simp only [Act.put, List.setIfInBounds_toArray, List.set_cons_zero, List.set_cons_succ, i64_w, i32_w, IntKind.wrap_u32]
                rfl
               refine pure_ (i := 13) (N := some 40) (v := ?_) (a' := ?_) #[true, true, true, true, true, true, true, true, true, true, true, true, true, true, false] rfl rfl (any_of HT_.out (by kernel_rfl)) (fun _ _ _ h => h) (Or.inl ⟨by rfl, ?_⟩) ?_ ?_
               rotate_left
               ·
                intro w'
                go_simp
                with_reducible rfl
               rotate_left
               ·
                simp only [Act.put, List.setIfInBounds_toArray, List.set_cons_zero, List.set_cons_succ, i64_w, i32_w, IntKind.wrap_u32]
                rfl
               refine pure_ (i := 14) (N := some 41) (v := ?_) (a' := ?_) #[true, true, true, true, true, true, true, true, true, true, true, true, true, true, true] rfl rfl (any_of HT_.out (by kernel_rfl)) (fun _ _ _ h => h) (Or.inl ⟨by rfl, ?_⟩) ?_ ?_
               rotate_left
               ·
                intro w'
                go_simp
                with_reducible rfl
               rotate_left
               ·
                simp only [Act.put, List.setIfInBounds_toArray, List.set_cons_zero, List.set_cons_succ, i64_w, i32_w, IntKind.wrap_u32]
                rfl
               refine done_ (done_of HT_.out (by kernel_rfl)) ?_
               try go_wp2
               go_roundg k2
               case measure => have := HK1.out; have := HK2.out; omega
               case rel => exact ⟨(x7_2), (wrap64 (x23_2 + 1)), (by first | rfl | (simp; done) | (simp [*]; done)), (by first | rfl | (simp; done) | (simp [*]; done)), H', ⟨by have := HK1.out; have := HK2.out; omega⟩, ⟨by (with_reducible repeat (first | apply Kd.R_alloc | apply Kd.R_drewN | apply Kd.R_drew)); exact HO_3.out⟩, ⟨by (with_reducible repeat (first | apply Kd.R_alloc | apply Kd.R_drewN | apply Kd.R_drew)); exact HO_4.out⟩, ⟨by (with_reducible repeat (first | apply Kd.R_alloc | apply Kd.R_drewN | apply Kd.R_drew)); exact HO_12.out⟩, ⟨by repeat (first | (with_reducible first | exact HB.out | apply below_alloc | apply pw_below_drewN | apply below_drew1) | exact HB.out)⟩⟩
             ·
              rw [if_neg c15] at H
              exact absurd H (by simp)
            ·
             rw [if_neg c14] at H
             exact absurd H (by simp)
           ·
            rw [if_neg c11] at H
            have c11b0 : decide (0 < x14_1) = false := decide_eq_false c11
            clear c11
            have H' := Aside0.mk H
            clear H
            have p5 : 0 ≤ (x23_2 : Int) := of_decide_eq_true (by first | (with_reducible assumption) | assumption)
            have q5 : x23_2 < (l0.length : Int) := of_decide_eq_true (by first | (with_reducible assumption) | assumption)
            obtain ⟨ad5, A5_0, c5_0, e5, hx5_0, hl5_0, hi5_0⟩ := at_L2 HR0.out x23_2 p5 q5
            cases e5
            replace hx5_0 := (HB.out.cell (World.block_lt_of_cell? w _ hx5_0)).trans hx5_0
            have HR5_0 := Aside0.mk hi5_0
            have HC5_0 := Aside0.mk hl5_0
            clear hi5_0 hl5_0
            replace p5 := eq_true p5
            replace q5 := eq_true q5
            try go_wp2
            have n0_ := Aside0.mk (Kd.R_drew HO_3.out)
            have n1_ := Aside0.mk (Kd.R_drew HO_4.out)
            have n2_ := Aside0.mk (Kd.R_drew HO_12.out)
            have n3_ := Aside0.mk (below_drew1 HB.out)
            clear HO_3
            clear HO_4
            clear HO_12
            clear HB
            have HO_3 := n0_
            have HO_4 := n1_
            have HO_12 := n2_
            have HB := n3_
            clear n0_ n1_ n2_ n3_
            refine start_ (n := 15) (S := fun w' => True) (ds := []) #[false, false, false, false, false, false, false, false, false, false, false, false, false, false, false] (by kernel_rfl) rfl rfl trivial (fun hHeld => ?_); refine with_tabW q13z.tab10 q13z.bits10 (fun HT_ HW_ => ?_)
            generalize wr.drew = w24 at HO_3 HO_4 HO_12 HB hHeld ⊢
            refine pure_ (i := 0) (N := some 27) (v := ?_) (a' := ?_) #[true, false, false, false, false, false, false, false, false, false, false, false, false, false, false] rfl rfl (any_of HT_.out (by kernel_rfl)) (fun _ _ _ h => h) (Or.inl ⟨by rfl, ?_⟩) ?_ ?_
            rotate_left
            ·
             intro w'
             go_simp
             with_reducible rfl
            rotate_left
            ·
             simp only [Act.put, List.setIfInBounds_toArray, List.set_cons_zero, List.set_cons_succ, i64_w, i32_w, IntKind.wrap_u32]
             rfl
            refine pure_ (i := 1) (N := some 28) (v := ?_) (a' := ?_) #[true, true, false, false, false, false, false, false, false, false, false, false, false, false, false] rfl rfl (any_of HT_.out (by kernel_rfl)) (fun _ _ _ h => h) (Or.inl ⟨by rfl, ?_⟩) ?_ ?_
            rotate_left
            ·
             intro w'
             go_simp
             with_reducible rfl
            rotate_left
            ·
             simp only [Act.put, List.setIfInBounds_toArray, List.set_cons_zero, List.set_cons_succ, i64_w, i32_w, IntKind.wrap_u32]
             rfl
            refine pure_ (i := 2) (N := some 29) (v := ?_) (a' := ?_) #[true, true, true, false, false, false, false, false, false, false, false, false, false, false, false] rfl rfl (any_of HT_.out (by kernel_rfl)) (fun _ _ _ h => h) (Or.inl ⟨by rfl, ?_⟩) ?_ ?_
            rotate_left
            ·
             intro w'
             go_simp
             with_reducible rfl
            rotate_left
            ·
             simp only [Act.put, List.setIfInBounds_toArray, List.set_cons_zero, List.set_cons_succ, i64_w, i32_w, IntKind.wrap_u32]
             rfl
            refine pure_ (i := 3) (N := some 30) (v := undef) (a' := ?_) #[true, true, true, true, false, false, false, false, false, false, false, false, false, false, false] rfl rfl (any_of HT_.out (by kernel_rfl)) (fun _ _ _ h => h) (Or.inr ⟨by rfl, rfl⟩) ?_ ?_
            rotate_left
            ·
             simp only [Act.put, List.setIfInBounds_toArray, List.set_cons_zero, List.set_cons_succ, i64_w, i32_w, IntKind.wrap_u32]
             rfl
            refine pure_ (i := 4) (N := some 31) (v := undef) (a' := ?_) #[true, true, true, true, true, false, false, false, false, false, false, false, false, false, false] rfl rfl (any_of HT_.out (by kernel_rfl)) (fun _ _ _ h => h) (Or.inr ⟨by rfl, rfl⟩) ?_ ?_
            rotate_left
            ·
             simp only [Act.put, List.setIfInBounds_toArray, List.set_cons_zero, List.set_cons_succ, i64_w, i32_w, IntKind.wrap_u32]
             rfl
            refine pure_ (i := 5) (N := some 32) (v := undef) (a' := ?_) #[true, true, true, true, true, true, false, false, false, false, false, false, false, false, false] rfl rfl (any_of HT_.out (by kernel_rfl)) (fun _ _ _ h => h) (Or.inr ⟨by rfl, rfl⟩) ?_ ?_
            rotate_left
            ·
             simp only [Act.put, List.setIfInBounds_toArray, List.set_cons_zero, List.set_cons_succ, i64_w, i32_w, IntKind.wrap_u32]
             rfl
            refine pure_ (i := 6) (N := some 33) (v := undef) (a' := ?_) #[true, true, true, true, true, true, true, false, false, false, false, false, false, false, false] rfl rfl (any_of HT_.out (by kernel_rfl)) (fun _ _ _ h => h) (Or.inr ⟨by rfl, rfl⟩) ?_ ?_
            rotate_left
            ·
             simp only [Act.put, List.setIfInBounds_toArray, List.set_cons_zero, List.set_cons_succ, i64_w, i32_w, IntKind.wrap_u32]
             rfl
            refine pure_ (i := 7) (N := some 34) (v := undef) (a' := ?_) #[true, true, true, true, true, true, true, true, false, false, false, false, false, false, false] rfl rfl (any_of HT_.out (by kernel_rfl)) (fun _ _ _ h => h) (Or.inr ⟨by rfl, rfl⟩) ?_ ?_
            rotate_left
            ·
             simp only [Act.put, List.setIfInBounds_toArray, List.set_cons_zero, List.set_cons_succ, i64_w, i32_w, IntKind.wrap_u32]
             rfl
            refine pure_ (i := 8) (N := some 35) (v := undef) (a' := ?_) #[true, true, true, true, true, true, true, true, true, false, false, false, false, false, false] rfl rfl (any_of HT_.out (by kernel_rfl)) (fun _ _ _ h => h) (Or.inr ⟨by rfl, rfl⟩) ?_ ?_
            rotate_left
            ·
             simp only [Act.put, List.setIfInBounds_toArray, List.set_cons_zero, List.set_cons_succ, i64_w, i32_w, IntKind.wrap_u32]
             rfl
            refine pure_ (i := 9) (N := some 36) (v := undef) (a' := ?_) #[true, true, true, true, true, true, true, true, true, true, false, false, false, false, false] rfl rfl (any_of HT_.out (by kernel_rfl)) (fun _ _ _ h => h) (Or.inr ⟨by rfl, rfl⟩) ?_ ?_
            rotate_left
            ·
             simp only [Act.put, List.setIfInBounds_toArray, List.set_cons_zero, List.set_cons_succ, i64_w, i32_w, IntKind.wrap_u32]
             rfl
            refine pure_ (i := 10) (N := some 37) (v := undef) (a' := ?_) #[true, true, true, true, true, true, true, true, true, true, true, false, false, false, false] rfl rfl (any_of HT_.out (by kernel_rfl)) (fun _ _ _ h => h) (Or.inr ⟨by rfl, rfl⟩) ?_ ?_
            rotate_left
            ·
             simp only [Act.put, List.setIfInBounds_toArray, List.set_cons_zero, List.set_cons_succ, i64_w, i32_w, IntKind.wrap_u32]
             rfl
            refine pure_ (i := 11) (N := some 38) (v := undef) (a' := ?_) #[true, true, true, true, true, true, true, true, true, true, true, true, false, false, false] rfl rfl (any_of HT_.out (by kernel_rfl)) (fun _ _ _ h => h) (Or.inr ⟨by rfl, rfl⟩) ?_ ?_
            rotate_left
            ·
             simp only [Act.put, List.setIfInBounds_toArray, List.set_cons_zero, List.set_cons_succ, i64_w, i32_w, IntKind.wrap_u32]
             rfl
            refine pure_ (i := 12) (N := some 39) (v := undef) (a' := ?_) #[true, true, true, true, true, true, true, true, true, true, true, true, true, false, false] rfl rfl (any_of HT_.out (by kernel_rfl)) (fun _ _ _ h => h) (Or.inr ⟨by rfl, rfl⟩) ?_ ?_
            rotate_left
            ·
             simp only [Act.put, List.setIfInBounds_toArray, List.set_cons_zero, List.set_cons_succ, i64_w, i32_w, IntKind.wrap_u32]
             rfl
            refine pure_ (i := 13) (N := some 40) (v := undef) (a' := ?_) #[true, true, true, true, true, true, true, true, true, true, true, true, true, true, false] rfl rfl (any_of HT_.out (by kernel_rfl)) (fun _ _ _ h => h) (Or.inr ⟨by rfl, rfl⟩) ?_ ?_
            rotate_left
            ·
             simp only [Act.put, List.setIfInBounds_toArray, List.set_cons_zero, List.set_cons_succ, i64_w, i32_w, IntKind.wrap_u32]
             rfl
            refine pure_ (i := 14) (N := some 41) (v := ?_) (a' := ?_) #[true, true, true, true, true, true, true, true, true, true, true, true, true, true, true] rfl rfl (any_of HT_.out (by kernel_rfl)) (fun _ _ _ h => h) (Or.inl ⟨by rfl, ?_⟩) ?_ ?_
            rotate_left
            ·
             intro w'
             go_simp
             with_reducible rfl
            rotate_left
            ·
             simp only [Act.put, List.setIfInBounds_toArray, List.set_cons_zero, List.set_cons_succ, i64_w, i32_w, IntKind.wrap_u32]
             rfl
            refine done_ (done_of HT_.out (by kernel_rfl)) ?_
            try go_wp2
            go_roundg k2
            case measure => have := HK1.out; have := HK2.out; omega
            case rel => exact ⟨(x7_2), (wrap64 (x23_2 + 1)), (by first | rfl | (simp; done) | (simp [*]; done)), (by first | rfl | (simp; done) | (simp [*]; done)), H', ⟨by have := HK1.out; have := HK2.out; omega⟩, ⟨by (with_reducible repeat (first | apply Kd.R_alloc | apply Kd.R_drewN | apply Kd.R_drew)); exact HO_3.out⟩, ⟨by (with_reducible repeat (first | apply Kd.R_alloc | apply Kd.R_drewN | apply Kd.R_drew)); exact HO_4.out⟩, ⟨by (with_reducible repeat (first | apply Kd.R_alloc | apply Kd.R_drewN | apply Kd.R_drew)); exact HO_12.out⟩, ⟨by repeat (first | (with_reducible first | exact HB.out | apply below_alloc | apply pw_below_drewN | apply below_drew1) | exact HB.out)⟩⟩
          ·
           rw [if_neg c10] at H
           exact absurd H (by simp)
         ·
          rw [if_neg c9] at H
          exact absurd H (by simp)
        ·
         rw [if_neg c8] at H
         have c8b0 : decide (x23_2 < (l0.length : Int)) = false := decide_eq_false c8
         clear c8
         by_cases c25 : x7_2 = true
         ·
          subst c25
          have H1 : ((q12z.f t1 x14_1).bind fun t9 => (if 0 ≤ (wrap64 ((x4_1.length : Int) - 1)) then (if (wrap64 ((x4_1.length : Int) - 1)) < (x4_1.length : Int) then (q13z.l0 k2 l0 t1 (x4_1.set ((wrap64 ((x4_1.length : Int) - 1)) : Int).toNat (⟨(rd_T33 x4_1 (wrap64 ((x4_1.length : Int) - 1))).f0, t9⟩ : S33)) t1 (t1.length : Int) (wrap64 (x14_1 + 1))) else (none)) else (none))) = some r := by rw [if_pos rfl] at H; exact H
          clear H
          have H := H1
          clear H1
          replace H := Option.bind_eq_some_iff.mp H
          obtain ⟨t9, A260, H⟩ := H
          replace H : (if 0 ≤ (wrap64 ((x4_1.length : Int) - 1)) then (if (wrap64 ((x4_1.length : Int) - 1)) < (x4_1.length : Int) then (q13z.l0 k2 l0 t1 (x4_1.set ((wrap64 ((x4_1.length : Int) - 1)) : Int).toNat (⟨(rd_T33 x4_1 (wrap64 ((x4_1.length : Int) - 1))).f0, t9⟩ : S33)) t1 (t1.length : Int) (wrap64 (x14_1 + 1))) else (none)) else (none)) = some r := H
          have A26 := Aside0.mk A260
          clear A260
          obtain ⟨ji27, hji27⟩ : ∃ j_ : Int, (wrap64 ((x4_1.length : Int) - 1)) = j_ := ⟨_, rfl⟩
          replace H : (if 0 ≤ (ji27) then (if (ji27) < (x4_1.length : Int) then (q13z.l0 k2 l0 t1 (x4_1.set ((ji27) : Int).toNat (⟨(rd_T33 x4_1 (ji27)).f0, t9⟩ : S33)) t1 (t1.length : Int) (wrap64 (x14_1 + 1))) else (none)) else (none)) = some r := by first | (rw [hji27] at H; exact H) | (simp only [hji27] at H ⊢; exact H)
          (try rw [hji27] at A26)
          have hji27w : (IntKind.i64.wrap ((x4_1.length : Int) - 1)) = ji27 := (i64_w _).trans hji27
          by_cases c28 : 0 ≤ (ji27)
          ·
           rw [if_pos c28] at H
           have c28b0 : decide (0 ≤ (ji27)) = true := decide_eq_true c28
           clear c28
           by_cases c29 : (ji27) < (x4_1.length : Int)
           ·
            rw [if_pos c29] at H
            have c29b0 : decide ((ji27) < (x4_1.length : Int)) = true := decide_eq_true c29
            clear c29
            obtain ⟨y10, hy10⟩ : ∃ y_ : List (S33), y_ = (x4_1.set ((ji27) : Int).toNat (⟨(rd_T33 x4_1 (ji27)).f0, t9⟩ : S33)) := ⟨_, rfl⟩
            replace H : (q13z.l0 k2 l0 t1 y10 t1 (t1.length : Int) (wrap64 (x14_1 + 1))) = some r := by first | (rw [hy10]; with_reducible exact H) | (have H2_ := (Option.bind_some _ _).symm.trans H; rw [hy10]; with_reducible exact H2_) | (have H2_ := (Option.bind_some _ _).symm.trans H; with_reducible exact H2_) | with_reducible exact H | (rw [hy10]; exact H) | exact H
            have Ny10 := Aside0.mk hy10
            clear hy10
            have H' := Aside0.mk H
            clear H
            obtain ⟨Ao31, co31, eo31⟩ := Kd.R_slice HO_4.out
            subst eo31
            go_wp2_with (first | ((with_reducible refine gate_callee (f := 25) rfl ?_); refine goesL_ (some 50) rfl rfl Try.func25 (by kernel_rfl) rfl #[.slice (some ad4) t1.length co4, .int .i64 x14_1] rfl (by (try simp only [List.map_toArray, List.map_cons, List.map_nil]); first | done | rfl | (simp only [List.length_drop, List.length_take]; rfl)) ?_; (with_reducible refine (q12z.calls _ _ t1 x14_1 t9 _ ?side1 ?side2 A26.out).mono ?_); (case side1 => repeat (first | exact (Kd.R_reads' HO_3.out).2.2 | (with_reducible refine Kd.C_alloc ?_ _) | (with_reducible refine Kd.C_drewN ?_ _) | (with_reducible refine Kd.C_drew ?_))); (case side2 => exact (Kd.R_reads' HO_3.out).2.1); rintro e w' ⟨rfl, ⟨nd, rfl⟩⟩; refine ⟨_, rfl, ?_⟩; (try (rw [drewN_self wr]; generalize hq_ : World.drewN wr _ = wr; have n0_ : Aside0 (Kd.R (Kd.int .u32) 29 wr w.heap.size (fun _ => True) (.slice (some ad4) t1.length co4) t1) := ⟨by rw [← hq_]; exact (by (with_reducible repeat (first | apply Kd.R_alloc | apply Kd.R_drewN | apply Kd.R_drew)); exact HO_12.out)⟩; have n1_ : Aside0 (Kd.R (Kd.int .u32) 29 wr w.heap.size (fun _ => True) (.slice (some ad4) t1.length co4) t1) := ⟨by rw [← hq_]; exact (by (with_reducible repeat (first | apply Kd.R_alloc | apply Kd.R_drewN | apply Kd.R_drew)); exact HO_3.out)⟩; have n2_ : Aside0 (Kd.R k33 33 wr w.heap.size (fun _ => True) (.slice Ao31 x4_1.length co31) x4_1) := ⟨by rw [← hq_]; exact (by (with_reducible repeat (first | apply Kd.R_alloc | apply Kd.R_drewN | apply Kd.R_drew)); exact HO_4.out)⟩; have n3_ : Aside0 (Below w.heap.size w wr) := ⟨by rw [← hq_]; exact (by repeat (first | (with_reducible first | exact HB.out | apply below_alloc | apply pw_below_drewN | apply below_drew1) | exact HB.out))⟩; clear HO_12 HO_3 HO_4 HB hq_; have HO_12 := n0_; have HO_3 := n1_; have HO_4 := n2_; have HB := n3_; clear n0_ n1_ n2_ n3_)); have p30 : 0 ≤ ((ji27) : Int) := of_decide_eq_true (by first | (with_reducible assumption) | assumption); have q30 : ((ji27) : Int) < ((x4_1.length : Int) : Int) := of_decide_eq_true (by first | (with_reducible assumption) | assumption); obtain ⟨go30, co30, eo30, gb30, gl30, cl30, HG30⟩ := Kd.R_form HO_4.out (by omega); (first | cases eo30 | (injection eo30 with ea_ en_ ec_; (first | subst ea_ | (injection ea_ with ea_; subst ea_)); subst ec_; clear en_)); have GB30 := Aside0.mk gb30; have GG30 := Aside0.mk HG30; clear gb30 gl30 HG30; obtain ⟨ce30, hcl30, hM30, hcc30, hfr30⟩ := Kd.R_elem HO_4.out z33 ((ji27) : Int) p30 q30; obtain rfl := k33_openM hM30; have hx30_0 : wr.cell? ⟨go30, ((ji27) : Int).toNat * 2, none⟩ = some (.int .u32 ((rd_T33 x4_1 (ji27)).f0)) := hcc30 0 _ rfl; have hx30_1 : wr.cell? ⟨go30, ((ji27) : Int).toNat * 2 + 1, none⟩ = some (.int .u32 ((rd_T33 x4_1 (ji27)).f1)) := hcc30 1 _ rfl; have hf30_0 : wr.frozen? ⟨go30, ((ji27) : Int).toNat * 2, none⟩ = false := hfr30 0; have hf30_1 : wr.frozen? ⟨go30, ((ji27) : Int).toNat * 2 + 1, none⟩ = false := hfr30 1; clear hcl30 hcc30 hfr30 hM30; replace p30 := eq_true p30; replace q30 := eq_true q30; have HX32 := Aside0.mk (show Kd.R k33 33 wr w.heap.size (fun _ => True) (.slice (some ⟨go30, 0, none⟩) x4_1.length co31) x4_1 from (by (with_reducible repeat (first | apply Kd.R_alloc | apply Kd.R_drewN | apply Kd.R_drew)); exact HO_4.out)); obtain ⟨ce32, hcl32, hM32, hcc32, hfr32⟩ := Kd.R_elem HX32.out z33 ((ji27) : Int) (of_decide_eq_true (by first | (with_reducible assumption) | assumption)) (by have h_ : ((ji27) : Int) < ((x4_1.length : Int) : Int) := of_decide_eq_true (by first | (with_reducible assumption) | assumption); first | exact h_ | (have e_ := (Kd.R_reads' HO_4.out).1; omega) | simpa using h_); obtain rfl := k33_openM hM32; have HP32 := Kd.R_seg HX32.out ((ji27) : Int) (of_decide_eq_true (by first | (with_reducible assumption) | assumption)) (by have h_ : ((ji27) : Int) < ((x4_1.length : Int) : Int) := of_decide_eq_true (by first | (with_reducible assumption) | assumption); first | exact h_ | (have e_ := (Kd.R_reads' HO_4.out).1; omega) | simpa using h_) (seg := [.int .u32 t9]) (j := 1) hcl32 hcc32 (show 2 ≤ 2 from by decide) (x' := (⟨(rd_T33 x4_1 (ji27)).f0, t9⟩ : S33)) (k33_mkM _ _ _ (⟨(rd_T33 x4_1 (ji27)).f0, t9⟩ : S33) ) (fun _ hk => hk); have hx32_1 := hcc32 1 _ rfl; (try simp only [show (k33).sz = 2 from rfl, Nat.mul_one, Nat.add_zero] at hx32_1); have hf32_1 := hfr32 1; (try simp only [show (k33).sz = 2 from rfl, Nat.mul_one, Nat.add_zero] at hf32_1); clear hcl32 hcc32 hfr32 hM32) | ((with_reducible refine gate_store (t := 29) (p := 52) rfl ?_); refine store_event (t := 29) (p := 52) (v := ?vo_w33) (w1 := (wr.setCell ⟨go30, ((ji27) : Int).toNat * 2 + 1, none⟩ (.int .u32 t9))) ?hg ?ho ?hn ?hr ?_; (case ho => rfl); (case hg => rfl); (case hn => rfl); (case hr => first | (go_simp; done) | (go_simp; rfl)); intro w33 hw; have hg : wr.grownBy w33 (some go30) := (by rw [hw]; exact HP32.2); have hp_ : Kd.R k33 33 w33 w.heap.size (fun _ => True) (.slice (some ⟨go30, 0, none⟩) x4_1.length co31) y10 := (by rw [hw, Ny10.out]; exact HP32.1); clear HP32; have n0_ := Aside0.mk (Kd.R_over' (v := (.slice (some ⟨go30, 0, none⟩) x4_1.length co31)) (by (with_reducible repeat (first | apply Kd.R_alloc | apply Kd.R_drewN | apply Kd.R_drew)); exact HO_3.out) (Kd.R_typed HO_4.out) (by decide) hg); have n1_ := Aside0.mk (hp_); have n2_ := Aside0.mk (Kd.R_over' (v := (.slice (some ⟨go30, 0, none⟩) x4_1.length co31)) (by (with_reducible repeat (first | apply Kd.R_alloc | apply Kd.R_drewN | apply Kd.R_drew)); exact HO_12.out) (Kd.R_typed HO_4.out) (by decide) hg); have n3_ := Aside0.mk ((by rw [hw]; exact below_set (HB.out) GB30.out : Below w.heap.size w w33)); clear HO_3; clear HO_4; clear HO_12; clear HB; have HO_3 := n0_; have HO_4 := n1_; have HO_12 := n2_; have HB := n3_; clear n0_ n1_ n2_ n3_; clear hg hw hp_))
            go_roundg k2
            case measure => have := HK1.out; have := HK2.out; omega
            case rel => exact ⟨(y10), (wrap64 (x14_1 + 1)), (by first | rfl | (simp; done) | (simp [*]; done)), H', ⟨by have := HK1.out; have := HK2.out; omega⟩, ⟨by (with_reducible repeat (first | apply Kd.R_alloc | apply Kd.R_drewN | apply Kd.R_drew)); exact HO_3.out⟩, ⟨by (with_reducible repeat (first | apply Kd.R_alloc | apply Kd.R_drewN | apply Kd.R_drew)); exact HO_4.out⟩, ⟨by (with_reducible repeat (first | apply Kd.R_alloc | apply Kd.R_drewN | apply Kd.R_drew)); exact HO_12.out⟩, ⟨by repeat (first | (with_reducible first | exact HB.out | apply below_alloc | apply pw_below_drewN | apply below_drew1) | exact HB.out)⟩⟩
           ·
            rw [if_neg c29] at H
            exact absurd H (by simp)
          ·
           rw [if_neg c28] at H
           exact absurd H (by simp)
         ·
          replace c25 := Bool.eq_false_iff.mpr c25
          subst c25
          have H1 : ((q12z.f t1 x14_1).bind fun t11 => (if x4_1.length < 17592186044416 then (q13z.l0 k2 l0 t1 (x4_1 ++ [(⟨(rd t1 x14_1), t11⟩ : S33)]) t1 (t1.length : Int) (wrap64 (x14_1 + 1))) else (none))) = some r := by rw [if_neg (show ¬ (false = true) by decide)] at H; exact H
          clear H
          have H := H1
          clear H1
          replace H := Option.bind_eq_some_iff.mp H
          obtain ⟨t11, A340, H⟩ := H
          replace H : (if x4_1.length < 17592186044416 then (q13z.l0 k2 l0 t1 (x4_1 ++ [(⟨(rd t1 x14_1), t11⟩ : S33)]) t1 (t1.length : Int) (wrap64 (x14_1 + 1))) else (none)) = some r := H
          have A34 := Aside0.mk A340
          clear A340
          by_cases c35 : x4_1.length < 17592186044416
          ·
           rw [if_pos c35] at H
           have LMc35 := Aside0.mk c35
           clear c35
           obtain ⟨y12, hy12⟩ : ∃ y_ : List (S33), y_ = (x4_1 ++ [(⟨(rd t1 x14_1), t11⟩ : S33)]) := ⟨_, rfl⟩
           replace H : (q13z.l0 k2 l0 t1 y12 t1 (t1.length : Int) (wrap64 (x14_1 + 1))) = some r := by first | (rw [hy12]; with_reducible exact H) | (have H2_ := (Option.bind_some _ _).symm.trans H; rw [hy12]; with_reducible exact H2_) | (have H2_ := (Option.bind_some _ _).symm.trans H; with_reducible exact H2_) | with_reducible exact H | (rw [hy12]; exact H) | exact H
           have Ny12 := Aside0.mk hy12
           clear hy12
           have H' := Aside0.mk H
           clear H
           go_wp2_with (first | ((with_reducible refine gate_callee (f := 25) rfl ?_); refine goesL_ (some 57) rfl rfl Try.func25 (by kernel_rfl) rfl #[.slice (some ad4) t1.length co4, .int .i64 x14_1] rfl (by (try simp only [List.map_toArray, List.map_cons, List.map_nil]); first | done | rfl | (simp only [List.length_drop, List.length_take]; rfl)) ?_; (with_reducible refine (q12z.calls _ _ t1 x14_1 t11 _ ?side1 ?side2 A34.out).mono ?_); (case side1 => repeat (first | exact (Kd.R_reads' HO_3.out).2.2 | (with_reducible refine Kd.C_alloc ?_ _) | (with_reducible refine Kd.C_drewN ?_ _) | (with_reducible refine Kd.C_drew ?_))); (case side2 => exact (Kd.R_reads' HO_3.out).2.1); rintro e w' ⟨rfl, ⟨nd, rfl⟩⟩; refine ⟨_, rfl, ?_⟩) | ((with_reducible refine gate_builtin (b := .append) (xs := #[.tmp 53, .tmp 59]) rfl ?_); at_builtin; refine Kd.R_append k33 (w0 := w) w.heap.size rfl (.tmp 53) (.tmp 59) 24 33 (.agg #[(.int .u32 0), (.int .u32 0)]) 8 rfl Try.underlying24 info33 rfl (by decide) (by omega) u4 x4_1 (⟨(rd t1 x14_1), t11⟩ : S33) [.int .u32 (rd t1 x14_1), .int .u32 t11] (fun _ => True) (fun _ => False) rfl rfl ?aP (fun _ hk => hk.elim) ?aF ?aO ?aB ?aS ?aL ?_; (case aP => exact k33_mkM _ _ _ (⟨(rd t1 x14_1), t11⟩ : S33)); (case aB => exact (by repeat (first | (with_reducible first | exact HB.out | apply below_alloc | apply pw_below_drewN | apply below_drew1) | exact HB.out))); (case aF => exact (fun _ _ => trivial)); (case aO => exact (by (with_reducible repeat (first | apply Kd.R_alloc | apply Kd.R_drewN | apply Kd.R_drew)); exact HO_4.out)); (case aS => exact (below_size (by repeat (first | (with_reducible first | exact HB.out | apply below_alloc | apply pw_below_drewN | apply below_drew1) | exact HB.out)))); (case aL => have := LMc35.out; omega); intro v13 w36 ho hb hg hat; rw [← Ny12.out] at ho; have n0_ := Aside0.mk (Kd.R_over' (by (with_reducible repeat (first | apply Kd.R_alloc | apply Kd.R_drewN | apply Kd.R_drew)); exact HO_3.out) (Kd.R_typed (by (with_reducible repeat (first | apply Kd.R_alloc | apply Kd.R_drewN | apply Kd.R_drew)); exact HO_4.out)) (by decide) hg); have n1_ := Aside0.mk (Kd.R_over' (by (with_reducible repeat (first | apply Kd.R_alloc | apply Kd.R_drewN | apply Kd.R_drew)); exact HO_12.out) (Kd.R_typed (by (with_reducible repeat (first | apply Kd.R_alloc | apply Kd.R_drewN | apply Kd.R_drew)); exact HO_4.out)) (by decide) hg); have n2_ := Aside0.mk (hb); have n3_ := Aside0.mk (ho); clear HO_3; clear HO_12; clear HB; clear HO_4; have HO_3 := n0_; have HO_12 := n1_; have HB := n2_; have HO14 := n3_; clear n0_ n1_ n2_ n3_; clear ho hb hg hat))
           go_roundg k2
           case measure => have := HK1.out; have := HK2.out; omega
           case rel => exact ⟨(y12), (wrap64 (x14_1 + 1)), (by first | rfl | (simp; done) | (simp [*]; done)), H', ⟨by have := HK1.out; have := HK2.out; omega⟩, ⟨by (with_reducible repeat (first | apply Kd.R_alloc | apply Kd.R_drewN | apply Kd.R_drew)); exact HO_3.out⟩, ⟨by (with_reducible repeat (first | apply Kd.R_alloc | apply Kd.R_drewN | apply Kd.R_drew)); exact HO14.out⟩, ⟨by (with_reducible repeat (first | apply Kd.R_alloc | apply Kd.R_drewN | apply Kd.R_drew)); exact HO_12.out⟩, ⟨by repeat (first | (with_reducible first | exact HB.out | apply below_alloc | apply pw_below_drewN | apply below_drew1) | exact HB.out)⟩⟩
          ·
           rw [if_neg c35] at H
           exact absurd H (by simp)
     ·
      rw [if_neg c7] at H
      exact absurd H (by simp)
    ·
     rw [if_neg c6] at H
     exact absurd H (by simp)
   ·
    rw [if_neg c5] at H
    have c5b0 : decide (x14_1 < (t1.length : Int)) = false := decide_eq_false c5
    clear c5
    obtain rfl := Option.some.inj H
    go_wp2
    go_ret
    exact ⟨_, by first | rfl | (simp [errW_none, errW_some] <;> rfl) | (simp [*, errW_none, errW_some] <;> rfl), by (with_reducible repeat (first | apply Kd.R_alloc | apply Kd.R_drewN | apply Kd.R_drew)); exact HO_4.out, by repeat (first | (with_reducible first | exact HB.out | apply below_alloc | apply pw_below_drewN | apply below_drew1) | exact HB.out)⟩

end Go.Proofs.Ytconaifcjnpabaa.P

namespace Go.Proofs.Ytconaifcjnpabaa.P
open Go.RowKit Go.Proofs.YtconaifcjnpabaaW.PrintWords Go.Proofs.YtconaifcjnpabaaW.PrintMore
set_option linter.unusedVariables false
set_option linter.unusedSimpArgs false
/-! What span.Atoms and the document's Atoms compute. -/
def Sets (L : List (List S33)) : Prop := L.length ≤ 1000 ∧ ∀ l ∈ L, Rng l ∧ l.length ≤ 200
theorem patoms_l1 (L : List (List S33)) (x13 : Int) (t : List S33) (ht : t.length ≤ 1000000) (hn : NF t) (res : List S33) : ∀ (d i : Nat) (acc : List Int), i + d = t.length → acc.length + 2 * d ≤ 4000000 →
    Ev (fun k => q3z.l0 k (acc ++ cutsN (t.drop i)) L (L.length : Int) (wrap64 (x13 + 1))) res → Ev (fun k => q3z.l1 k acc L (L.length : Int) x13 t (t.length : Int) (i : Int)) res
  | 0, i, acc, hi, hb, h => by
    rw [List.drop_eq_nil_of_le (by omega)] at h
    rw [show cutsN [] = [] from rfl, List.append_nil] at h
    refine Ev.step (fun k => ?_) h
    simp only [q3z.l1]
    rw [if_neg (by omega)]
  | d + 1, i, acc, hi, hb, h => by
    have hil : i < t.length := by omega
    rw [List.drop_eq_getElem_cons hil] at h
    have hok := hn.1 t[i] (List.getElem_mem hil)
    unfold Ok at hok
    have hrd : rd_T33 t (i : Int) = t[i] := rdS t i hil
    generalize t[i] = s at hrd hok h
    by_cases hl : s.f1 < 4294967295
    · have h' : Ev (fun k => q3z.l0 k ((acc ++ [s.f0, s.f1 + 1]) ++ cutsN (t.drop (i + 1))) L (L.length : Int) (wrap64 (x13 + 1))) res := by
        rw [List.append_assoc]
        rw [cutsN, if_pos hl] at h
        exact h
      refine Ev.step (fun k => ?_) (patoms_l1 L x13 t ht hn res d (i + 1) _ (by omega) (by simp; omega) h')
      simp only [q3z.l1]
      rw [if_pos (by omega), if_pos (by omega), if_pos (by omega), if_pos (by omega), Option.bind_some, hrd, if_pos hl, if_pos (by simp; omega), wr1 i (by omega), List.append_assoc, show (s.f1 + 1) % 4294967296 = s.f1 + 1 by omega]
      rfl
    · have h' : Ev (fun k => q3z.l0 k ((acc ++ [s.f0]) ++ cutsN (t.drop (i + 1))) L (L.length : Int) (wrap64 (x13 + 1))) res := by
        rw [List.append_assoc]
        rw [cutsN, if_neg hl] at h
        exact h
      refine Ev.step (fun k => ?_) (patoms_l1 L x13 t ht hn res d (i + 1) _ (by omega) (by simp; omega) h')
      simp only [q3z.l1]
      rw [if_pos (by omega), if_pos (by omega), if_pos (by omega), if_pos (by omega), Option.bind_some, hrd, if_neg hl, wr1 i (by omega)]
theorem patoms_l0 (L : List (List S33)) (hS : Sets L) : ∀ (d i : Nat) (acc : List Int), i + d = L.length → acc.length + 400 * d ≤ 2000000 →
    ∃ cs : List Int, cs.length ≤ 400 * d ∧ (∀ x, 0 < x → x ≤ 4294967295 → (x ∈ cs ↔ Turn (L.drop i) x)) ∧ (∀ x ∈ cs, 0 ≤ x ∧ x ≤ 4294967295) ∧
      ∀ res, Ev (fun k => q3z.l0 k (acc ++ cs) L (L.length : Int) (L.length : Int)) res → Ev (fun k => q3z.l0 k acc L (L.length : Int) (i : Int)) res
  | 0, i, acc, hi, hb => by
    refine ⟨[], by simp, fun x _ _ => ?_, by simp, fun res h => ?_⟩
    · rw [List.drop_eq_nil_of_le (by omega)]
      simp [Turn]
    · rw [List.append_nil] at h
      have e : i = L.length := by omega
      rw [e]; exact h
  | d + 1, i, acc, hi, hb => by
    have hil : i < L.length := by omega
    have hl := hS.2 L[i] (List.getElem_mem hil)
    have hL := hS.1
    obtain ⟨t, h1, h2, h3, h4⟩ := norm_ev L[i] (by omega) hl.1
    have hcl := cutsN_len t
    obtain ⟨cs, c1, c2, c3, c4⟩ := patoms_l0 L hS d (i + 1) (acc ++ cutsN t) (by omega) (by simp; omega)
    refine ⟨cutsN t ++ cs, by simp; omega, fun x x0 x1 => ?_, fun x hx => ?_, fun res h => ?_⟩
    · rw [List.mem_append, nf_turn h2 x x0 x1, c2 x x0 x1, List.drop_eq_getElem_cons hil, h3, h3]
      unfold Turn
      constructor
      · rintro (q | ⟨l, q1, q2⟩)
        · exact ⟨_, List.mem_cons_self, q⟩
        · exact ⟨l, List.mem_cons_of_mem _ q1, q2⟩
      · rintro ⟨l, q1, q2⟩
        rcases List.mem_cons.1 q1 with rfl | q1
        · exact .inl q2
        · exact .inr ⟨l, q1, q2⟩
    · rcases List.mem_append.1 hx with q | q
      · obtain ⟨s, hs, q⟩ := (mem_cutsN t x).1 q
        have := h2.1 s hs
        unfold Ok at this
        omega
      · exact c3 x q
    · rw [← List.append_assoc] at h
      have h5 := c4 res h
      refine Ev.step (fun k => ?_) (Ev.bind h1 (f := fun k t => q3z.l1 k acc L (L.length : Int) (i : Int) t (t.length : Int) 0) (patoms_l1 L (i : Int) t (by omega) h2 res t.length 0 acc (by omega) (by omega) (by
        rw [List.drop_zero, wr1 i (by omega)]
        exact h5)))
      simp only [q3z.l0]
      rw [if_pos (by omega), if_pos (by omega), if_pos (by omega), rdL L i hil]
theorem patoms_l2 (C : List Int) (hC : C.length ≤ 2000000) (hr : ∀ x ∈ C, 0 < x ∧ x ≤ 4294967295) : ∀ (d i : Nat) (pre : List S33) (f : Int), i + d = C.length → pre.length ≤ i →
    Ev (fun k => q3z.l2 k (pre ++ [⟨f, 4294967295⟩]) C (C.length : Int) (i : Int)) (pre ++ atomsOf f (C.drop i))
  | 0, i, pre, f, hi, hp => by
    rw [List.drop_eq_nil_of_le (by omega)]
    refine Ev.step (f := fun _ => some (pre ++ [⟨f, 4294967295⟩])) (fun k => ?_) (Ev.now _)
    simp only [q3z.l2]
    rw [if_neg (by omega)]
  | d + 1, i, pre, f, hi, hp => by
    have hil : i < C.length := by omega
    have hci := hr C[i] (List.getElem_mem hil)
    have hrd : rd C (i : Int) = C[i] := rdI C i hil
    rw [List.drop_eq_getElem_cons hil]
    generalize C[i] = c at hrd hci
    have ih := patoms_l2 C hC hr d (i + 1) (pre ++ [⟨f, c - 1⟩]) c (by omega) (by simp; omega)
    rw [show (pre ++ [(⟨f, c - 1⟩ : S33)]) ++ atomsOf c (C.drop (i + 1)) = pre ++ atomsOf f (c :: C.drop (i + 1)) by rw [List.append_assoc]; rfl] at ih
    have hlen : ((pre ++ [(⟨f, 4294967295⟩ : S33)]).length : Int) = ((pre.length + 1 : Nat) : Int) := by simp
    have hw : wrap64 (((pre.length + 1 : Nat) : Int) - 1) = (pre.length : Int) := by rw [wr2 _ (by omega) (by omega)]; simp
    have hrs : rd_T33 (pre ++ [(⟨f, 4294967295⟩ : S33)]) (pre.length : Int) = ⟨f, 4294967295⟩ := by
      rw [rdS _ _ (by simp)]
      simp
    refine Ev.step (fun k => ?_) ih
    simp only [q3z.l2]
    rw [if_pos (by omega), if_pos (by omega), if_pos (by omega), hrd, hlen, hw, if_pos (by omega), if_pos (by omega), hrs, Int.toNat_natCast, set_last, Option.bind_some, if_pos (by simp; omega), wr1 i (by omega), show (c - 1) % 4294967296 = c - 1 by omega]
theorem patoms_ev (L : List (List S33)) (hS : Sets L) : ∃ C, Ev (fun k => q3z.f k L) (atomsOf 0 C) ∧ Turns L C ∧ C.length ≤ 400000 := by
  obtain ⟨cs, c1, c2, c3, c4⟩ := patoms_l0 L hS L.length 0 [] (by omega) (by have := hS.1; simp; omega)
  have hL := hS.1
  rw [List.nil_append] at c4
  have hlt : (setU cs).Pairwise (fun a b : Int => a < b) := setU_lt cs
  have hle := setU_le cs
  have h0 : ∀ x ∈ setU cs, 0 ≤ x := fun x hx => (c3 x ((setU_mem cs x).1 hx)).1
  obtain ⟨z1, z2⟩ := dropZ_spec (setU cs) hlt h0
  have hzl : (dropZ (setU cs)).length ≤ (setU cs).length := by
    cases setU cs with
    | nil => simp [dropZ]
    | cons y s => simp only [dropZ]; split <;> simp
  have hT : Turns L (dropZ (setU cs)) := ⟨z1, fun x => by
    rw [z2, setU_mem]
    constructor
    · rintro ⟨q1, q2⟩
      have := c3 x q1
      refine ⟨q2, this.2, ?_⟩
      have := (c2 x q2 this.2).1 q1
      rwa [List.drop_zero] at this
    · rintro ⟨q1, q2, q3⟩
      refine ⟨(c2 x q1 q2).2 ?_, q1⟩
      rwa [List.drop_zero]⟩
  refine ⟨dropZ (setU cs), c4 _ ?_, hT, by omega⟩
  have hl2 := patoms_l2 (dropZ (setU cs)) (by omega) (fun x hx => ⟨((hT.2 x).1 hx).1, ((hT.2 x).1 hx).2.1⟩) (dropZ (setU cs)).length 0 [] 0 (by omega) (by simp)
  rw [List.nil_append, List.nil_append, List.drop_zero] at hl2
  have e1 : ∀ k, Sort_u32.f k cs = some (sortU cs) := fun k => if_pos (by omega)
  have e2 : Compact_u32.f (sortU cs) = some (setU cs) := if_pos (by rw [sortU_len]; omega)
  have hj3 : Ev (fun k => q3z.j3 k (dropZ (setU cs))) (atomsOf 0 (dropZ (setU cs))) := Ev.step (fun k => by simp only [q3z.j3]; rfl) hl2
  have hj2 : Ev (fun k => if ((setU cs).length : Int) > 0 then (if 0 < ((setU cs).length : Int) then (q3z.j2 k (setU cs) ((rd (setU cs) 0) == 0)) else (none)) else (q3z.j2 k (setU cs) false)) (atomsOf 0 (dropZ (setU cs))) := by
    cases hs : setU cs with
    | nil =>
      rw [hs] at hj3
      refine Ev.step (f := fun k => q3z.j3 k []) (fun k => ?_) hj3
      rw [if_neg (by simp)]
      simp only [q3z.j2]
      rfl
    | cons y s =>
      rw [hs] at hj3
      have hr0 : rd (y :: s) 0 = y := rdI (y :: s) 0 (by simp)
      by_cases e : y = 0
      · subst e
        simp only [dropZ, if_true] at hj3 ⊢
        refine Ev.step (f := fun k => q3z.j3 k s) (fun k => ?_) hj3
        rw [if_pos (by simp), if_pos (by simp), hr0]
        simp only [q3z.j2]
        rw [if_pos (by simp), if_pos (by simp; omega)]
        rfl
      · simp only [dropZ, if_neg e] at hj3 ⊢
        refine Ev.step (f := fun k => q3z.j3 k (y :: s)) (fun k => ?_) hj3
        rw [if_pos (by simp), if_pos (by simp), hr0]
        simp only [q3z.j2]
        rw [if_neg (by simpa using e)]
  refine Ev.step (fun k => ?_) hj2
  simp only [q3z.l0]
  rw [if_neg (by omega), e1, Option.bind_some, e2, Option.bind_some]
end Go.Proofs.Ytconaifcjnpabaa.P

namespace Go.Proofs.Ytconaifcjnpabaa.P
open Go.RowKit Go.Proofs.YtconaifcjnpabaaW.PrintWords Go.Proofs.YtconaifcjnpabaaW.PrintMore
set_option linter.unusedVariables false
set_option linter.unusedSimpArgs false
/-! The document's Atoms. -/
def endI : List Int → Int
  | [] => 4294967295
  | n :: _ => n - 1
theorem endI_of (l : List Int) : endOf (l.map (fun n => (n, true))) = endI l := by cases l <;> rfl
theorem ratoms_l1 (L : List (List S33)) (hS : Sets L) (b : List Int) (out : List S33) (i : Nat) (hi : i < b.length) (hb : b.length ≤ 900000) (hi0 : 0 < i) (res : List S33) : ∀ (d j : Nat) (g : Bool), j + d = L.length →
    Ev (fun k => q13z.l1 k L b out (i : Int) b[i] (g && sameAt (L.drop j) b[i - 1] b[i]) b (b.length : Int) (i : Int) L (L.length : Int) (L.length : Int)) res → Ev (fun k => q13z.l1 k L b out (i : Int) b[i] g b (b.length : Int) (i : Int) L (L.length : Int) (j : Int)) res
  | 0, j, g, hj, h => by
    rw [List.drop_eq_nil_of_le (by omega)] at h
    have e : sameAt [] b[i - 1] b[i] = true := rfl
    rw [e, Bool.and_true] at h
    have e2 : j = L.length := by omega
    rw [e2]
    exact h
  | d + 1, j, g, hj, h => by
    have hjl : j < L.length := by omega
    have hl := hS.2 L[j] (List.getElem_mem hjl)
    have hL := hS.1
    rw [List.drop_eq_getElem_cons hjl] at h
    have hrd : rd_L2 L (j : Int) = L[j] := rdL L j hjl
    have hrb : rd b ((i - 1 : Nat) : Int) = b[i - 1] := rdI b (i - 1) (by omega)
    generalize hs : L[j] = s at hl h hrd
    have hsame : sameAt (s :: L.drop (j + 1)) b[i - 1] b[i] = ((InS s b[i] == InS s b[i - 1]) && sameAt (L.drop (j + 1)) b[i - 1] b[i]) := by simp [sameAt]
    rw [hsame] at h
    have ih := ratoms_l1 L hS b out i hi hb hi0 res d (j + 1) (g && (InS s b[i] == InS s b[i - 1])) (by omega) (by rw [Bool.and_assoc]; exact h)
    refine Ev.step (fun k => ?_) (Ev.bind (refIn_ev s b[i] (by omega)) (f := fun k t6 => (q8z.f k s b[i - 1]).bind fun t8 => q13z.l1 k L b out (i : Int) b[i] (g && (t6 == t8)) b (b.length : Int) (i : Int) L (L.length : Int) ((j + 1 : Nat) : Int)) (Ev.bind (refIn_ev s b[i - 1] (by omega)) (f := fun k t8 => q13z.l1 k L b out (i : Int) b[i] (g && (InS s b[i] == t8)) b (b.length : Int) (i : Int) L (L.length : Int) ((j + 1 : Nat) : Int)) ih))
    simp only [q13z.l1]
    rw [if_pos (by omega), if_pos (by omega), if_pos (by omega), if_pos (by omega), hrd, wr2 i (by omega) hi0]
    congr 1
    funext p
    rw [if_pos (by omega), if_pos (by omega), hrb, wr1 j (by omega)]
    congr 1
    funext q
    cases p <;> cases q <;> cases g <;> rfl
theorem ratoms_l1z (L : List (List S33)) (hS : Sets L) (b : List Int) (out : List S33) (n : Int) (res : List S33) : ∀ (d j : Nat), j + d = L.length →
    Ev (fun k => q13z.l1 k L b out 0 n false b (b.length : Int) 0 L (L.length : Int) (L.length : Int)) res → Ev (fun k => q13z.l1 k L b out 0 n false b (b.length : Int) 0 L (L.length : Int) (j : Int)) res
  | 0, j, hj, h => by
    have e2 : j = L.length := by omega
    rw [e2]
    exact h
  | d + 1, j, hj, h => by
    have hL := hS.1
    refine Ev.step (fun k => ?_) (ratoms_l1z L hS b out n res d (j + 1) (by omega) h)
    simp only [q13z.l1]
    rw [if_pos (by omega), if_pos (by omega), if_pos (by omega), if_neg (by omega), wr1 j (by omega)]
theorem ratoms_l0 (L : List (List S33)) (hS : Sets L) (b : List Int) (hb : b.length ≤ 900000) (hr : ∀ z ∈ b, 0 ≤ z ∧ z ≤ 4294967295) (hp : Rising b) (h0 : ∀ z ∈ b.drop 1, 0 < z) : ∀ (d i : Nat) (pre : List S33) (f : Int) (hi : i + 1 + d = b.length), pre.length ≤ i →
    Ev (fun k => q13z.l0 k L b (pre ++ [⟨f, endI (b.drop (i + 1))⟩]) b (b.length : Int) ((i + 1 : Nat) : Int)) (pre ++ atomsOf f (kf L (b[i]'(by omega)) (b.drop (i + 1))))
  | 0, i, pre, f, hi, hpl => by
    rw [List.drop_eq_nil_of_le (by omega)]
    refine Ev.step (f := fun _ => some (pre ++ [⟨f, 4294967295⟩])) (fun k => ?_) (Ev.now _)
    simp only [q13z.l0]
    rw [if_neg (by omega)]
    rfl
  | d + 1, i, pre, f, hi, hpl => by
    have hil : i + 1 < b.length := by omega
    have hend := end_f b (i + 1) hil hb hr hp h0 (fun _ => true)
    rw [endI_of] at hend
    have hrd : rd b ((i + 1 : Nat) : Int) = b[i + 1] := rdI b (i + 1) hil
    rw [List.drop_eq_getElem_cons hil]
    have hlen : ∀ e : Int, ((pre ++ [(⟨f, e⟩ : S33)]).length : Int) = ((pre.length + 1 : Nat) : Int) := fun e => by simp
    have hw : wrap64 (((pre.length + 1 : Nat) : Int) - 1) = (pre.length : Int) := by rw [wr2 _ (by omega) (by omega)]; simp
    have hrs : ∀ e : Int, rd_T33 (pre ++ [(⟨f, e⟩ : S33)]) (pre.length : Int) = ⟨f, e⟩ := fun e => by
      rw [rdS _ _ (by simp)]
      simp
    refine Ev.step (f := fun k => q13z.l1 k L b (pre ++ [⟨f, b[i + 1] - 1⟩]) ((i + 1 : Nat) : Int) b[i + 1] true b (b.length : Int) ((i + 1 : Nat) : Int) L (L.length : Int) ((0 : Nat) : Int)) (fun k => ?_) ?_
    · simp only [q13z.l0]
      rw [if_pos (by omega), if_pos (by omega), if_pos (by omega), hrd, decide_eq_true (by omega)]
      rfl
    · refine ratoms_l1 L hS b _ (i + 1) hil hb (by omega) _ L.length 0 true (by omega) ?_
      rw [List.drop_zero, Bool.true_and]
      have hpi : b[i + 1 - 1]'(by omega) = b[i]'(by omega) := rfl
      rw [hpi]
      unfold kf
      cases e : sameAt L (b[i]'(by omega)) b[i + 1] with
      | true =>
        rw [if_pos rfl]
        have ih := ratoms_l0 L hS b hb hr hp h0 d (i + 1) pre f (by omega) (by omega)
        refine Ev.step (fun k => ?_) ih
        simp only [q13z.l1]
        rw [if_neg (by omega), if_pos trivial, hend, Option.bind_some, hlen, hw, if_pos (by omega), if_pos (by omega), hrs, Int.toNat_natCast, set_last, wr1 (i + 1) (by omega)]
      | false =>
        rw [if_neg (by decide)]
        have ih := ratoms_l0 L hS b hb hr hp h0 d (i + 1) (pre ++ [⟨f, b[i + 1] - 1⟩]) b[i + 1] (by omega) (by simp; omega)
        rw [show (pre ++ [(⟨f, b[i + 1] - 1⟩ : S33)]) ++ atomsOf b[i + 1] (kf L b[i + 1] (b.drop (i + 1 + 1))) = pre ++ atomsOf f (b[i + 1] :: kf L b[i + 1] (b.drop (i + 1 + 1))) by rw [List.append_assoc]; rfl] at ih
        refine Ev.step (fun k => ?_) ih
        simp only [q13z.l1]
        rw [if_neg (by omega), if_neg (by decide), hend, Option.bind_some, if_pos (by simp; omega), wr1 (i + 1) (by omega)]
theorem sum_le (L : List (List S33)) (m : Nat) (h : ∀ l ∈ L, l.length ≤ m) : (L.map List.length).sum ≤ m * L.length := by
  induction L with
  | nil => simp
  | cons l r ih =>
    have h1 := h l List.mem_cons_self
    have h2 := ih (fun x hx => h x (List.mem_cons_of_mem _ hx))
    simp only [List.map_cons, List.sum_cons, List.length_cons, Nat.mul_succ]
    omega
theorem cutL_len (L : List (List S33)) : ∀ b, Rising b → (cutL b L).length ≤ b.length + 2 * (L.map List.length).sum := by
  induction L with
  | nil => intro b _; simp [cutL]
  | cons l r ih =>
    intro b hb
    obtain ⟨p1, _, p3⟩ := cutS_spec l b hb
    have := ih _ p1
    rw [cutL]
    simp only [List.map_cons, List.sum_cons]
    omega
theorem ratoms_ev (L : List (List S33)) (hS : Sets L) : ∃ C, Ev (fun k => q13z.f k L) (atomsOf 0 C) ∧ Turns L C := by
  obtain ⟨r, q1, q2, q3, q4⟩ := kf_turns L (fun l hl => (hS.2 l hl).1)
  have hL := hS.1
  have hsum := sum_le L 200 (fun l hl => (hS.2 l hl).2)
  have hlen := cutL_len L [0] (List.pairwise_singleton _ _)
  rw [q1] at hlen
  simp only [List.length_cons, List.length_nil] at hlen
  have hb := begins_l0 L hL (fun l hl => ⟨(hS.2 l hl).1, by have := (hS.2 l hl).2; omega⟩) L.length 0 [0] (2 * (L.map List.length).sum) (by omega) (by simp; omega) (by rw [List.drop_zero]; exact Nat.le_refl _) (List.pairwise_singleton _ _)
  rw [List.drop_zero, q1] at hb
  refine ⟨kf L 0 r, ?_, q2⟩
  have hr : ∀ z ∈ (0 :: r), 0 ≤ z ∧ z ≤ 4294967295 := fun z hz => by
    rcases List.mem_cons.1 hz with rfl | hz
    · omega
    · have := q4 z hz; omega
  have h0 : ∀ z ∈ (0 :: r).drop 1, 0 < z := fun z hz => (q4 z (by simpa using hz)).1
  have hmain := ratoms_l0 L hS (0 :: r) (by simp; omega) hr q3 h0 r.length 0 [] 0 (by simp; omega) (by simp)
  have hend := end_f (0 :: r) 0 (by simp) (by simp; omega) hr q3 h0 (fun _ => true)
  rw [endI_of] at hend
  refine Ev.bind hb (f := fun k t1 => q13z.l0 k L t1 ([] : List S33) t1 (t1.length : Int) 0) ?_
  refine Ev.step (f := fun k => q13z.l1 k L (0 :: r) [] 0 0 false (0 :: r) ((0 :: r).length : Int) 0 L (L.length : Int) ((0 : Nat) : Int)) (fun k => ?_) (ratoms_l1z L hS (0 :: r) [] 0 _ L.length 0 (by omega) ?_)
  · simp only [q13z.l0]
    rw [if_pos (by simp), if_pos (by omega), if_pos (by simp), show rd (0 :: r) 0 = 0 from rdI (0 :: r) 0 (by simp)]
    rfl
  · refine Ev.step (fun k => ?_) hmain
    simp only [q13z.l1]
    rw [if_neg (by omega), if_neg (by decide)]
    have hend' : q12z.f (0 :: r) 0 = some (endI ((0 :: r).drop (0 + 1))) := hend
    rw [hend', Option.bind_some, if_pos (by simp), show wrap64 (0 + 1) = ((0 + 1 : Nat) : Int) from wr1 0 (by omega)]
theorem Rng_of_good (l : List S33) (h : ∀ z ∈ l, good33 z) : Rng l := fun s hs => by
  have := h s hs
  unfold good33 at this
  simp [Lit.wf, IntKind.min, IntKind.max, IntKind.signed, IntKind.bits] at this
  omega
end Go.Proofs.Ytconaifcjnpabaa.P

namespace Go.Proofs.Ytconaifcjnpabaa.P
open Go.RowKit Go.Proofs.YtconaifcjnpabaaW.PrintWords Go.Proofs.YtconaifcjnpabaaW.PrintMore
set_option linter.unusedVariables false
set_option linter.unusedSimpArgs false
theorem norm_eq (l r : List S33) (hl : l.length ≤ 1000000) (hr : Rng l) (hn : NF r) (h : ∀ n, InS r n = InS l n) : Ev (fun k => q2z.f k l) r := by
  obtain ⟨t, h1, h2, h3, _⟩ := norm_ev l hl hr
  rwa [nf_ext h2 hn (fun n => by rw [h3, h])] at h1
theorem nf1 (a b : Int) (h0 : 0 ≤ a) (h1 : a ≤ b) (h2 : b ≤ 4294967295) : NF [⟨a, b⟩] := NF_cons.2 ⟨⟨h0, h1, h2⟩, fun _ h => (List.not_mem_nil h).elim, NF_nil⟩
theorem rng1 (a b : Int) (h0 : 0 ≤ a) (h1 : a ≤ b) (h2 : b ≤ 4294967295) : Rng [⟨a, b⟩] := NF_Rng (nf1 a b h0 h1 h2)
theorem rng_cons (a b : Int) (l : List S33) (h : 0 ≤ a ∧ a ≤ 4294967295 ∧ 0 ≤ b ∧ b ≤ 4294967295) (hl : Rng l) : Rng (⟨a, b⟩ :: l) := fun s hs => by
  rcases List.mem_cons.1 hs with rfl | hs
  · exact h
  · exact hl s hs
theorem atoms_tail : ∀ m, q3z.l0 (m + 40) [2, 6, 4, 10] [[⟨2, 5⟩], [⟨4, 9⟩]] 2 2 = some [⟨0, 1⟩, ⟨2, 3⟩, ⟨4, 5⟩, ⟨6, 9⟩, ⟨10, 4294967295⟩] := by
  intro m
  kernel_rfl
theorem alive_ev : Ev (fun k => q6z.f k) true := by
  have h1 := norm_eq [⟨5, 7⟩, ⟨1, 2⟩, ⟨3, 4⟩, ⟨9, 8⟩] [⟨1, 7⟩] (by decide) (rng_cons _ _ _ (by decide) (rng_cons _ _ _ (by decide) (rng_cons _ _ _ (by decide) (rng_cons _ _ _ (by decide) (fun s hs => (List.not_mem_nil hs).elim))))) (nf1 _ _ (by decide) (by decide) (by decide)) (fun n => by
    rw [Bool.eq_iff_iff]
    simp only [InS, List.any_cons, List.any_nil, Bool.or_false, Bool.or_eq_true, inSpan_iff]
    omega)
  obtain ⟨t, n1, n2, n3, _⟩ := not_ev [⟨0, 4⟩] (by decide) (rng1 _ _ (by decide) (by decide) (by decide))
  have ht : t = [⟨5, 4294967295⟩] := nf_ext n2 (nf1 _ _ (by decide) (by decide) (by decide)) (fun n => by
    rw [n3, Bool.eq_iff_iff]
    simp only [InS, List.any_cons, List.any_nil, Bool.or_false, Bool.and_eq_true, decide_eq_true_eq, Bool.not_eq_true', inSpan, Bool.and_eq_false_iff, decide_eq_false_iff_not]
    omega)
  subst ht
  have a1 := norm_eq [⟨2, 5⟩] [⟨2, 5⟩] (by decide) (rng1 _ _ (by decide) (by decide) (by decide)) (nf1 _ _ (by decide) (by decide) (by decide)) (fun _ => rfl)
  have a2 := norm_eq [⟨4, 9⟩] [⟨4, 9⟩] (by decide) (rng1 _ _ (by decide) (by decide) (by decide)) (nf1 _ _ (by decide) (by decide) (by decide)) (fun _ => rfl)
  have at_ : Ev (fun k => q3z.f k [[⟨2, 5⟩], [⟨4, 9⟩]]) [⟨0, 1⟩, ⟨2, 3⟩, ⟨4, 5⟩, ⟨6, 9⟩, ⟨10, 4294967295⟩] := by
    refine Ev.step (g := fun k => q3z.l0 k [] [[⟨2, 5⟩], [⟨4, 9⟩]] 2 0) (fun k => ?_) (Ev.bind a1 (f := fun k t => q3z.l1 k [] [[⟨2, 5⟩], [⟨4, 9⟩]] 2 0 t (t.length : Int) 0) ?_)
    · kernel_rfl
    · refine Ev.step (f := fun k => q3z.l1 k [2, 6] [[⟨2, 5⟩], [⟨4, 9⟩]] 2 0 [⟨2, 5⟩] 1 1) (fun k => by kernel_rfl) ?_
      refine Ev.step (f := fun k => q3z.l0 k [2, 6] [[⟨2, 5⟩], [⟨4, 9⟩]] 2 1) (fun k => by kernel_rfl) ?_
      refine Ev.step (fun k => ?_) (Ev.bind a2 (f := fun k t => q3z.l1 k [2, 6] [[⟨2, 5⟩], [⟨4, 9⟩]] 2 1 t (t.length : Int) 0) ?_)
      · kernel_rfl
      · refine Ev.step (f := fun k => q3z.l1 k [2, 6, 4, 10] [[⟨2, 5⟩], [⟨4, 9⟩]] 2 1 [⟨4, 9⟩] 1 1) (fun k => by kernel_rfl) ?_
        refine Ev.step (f := fun k => q3z.l0 k [2, 6, 4, 10] [[⟨2, 5⟩], [⟨4, 9⟩]] 2 2) (fun k => by kernel_rfl) ?_
        refine ⟨40, fun k hk => ?_⟩
        obtain ⟨m, rfl⟩ : ∃ m, k = m + 40 := ⟨k - 40, by omega⟩
        exact atoms_tail m
  refine Ev.bind h1 (f := fun k t => (q1z.f k t [⟨1, 7⟩]).bind fun t171 => (if t171 = true then ((q5z.f k [⟨0, 4⟩]).bind fun t175 => ((q1z.f k t175 [⟨5, 4294967295⟩]).bind fun t181 => (if t181 = true then ((q3z.f k [[⟨2, 5⟩], [⟨4, 9⟩]]).bind fun t191 => (some ((t191.length : Int) == 5))) else (some false)))) else (some false))) ?_
  refine Ev.bind (same_ev _ (by decide)) (f := fun k t171 => if t171 = true then ((q5z.f k [⟨0, 4⟩]).bind fun t175 => ((q1z.f k t175 [⟨5, 4294967295⟩]).bind fun t181 => (if t181 = true then ((q3z.f k [[⟨2, 5⟩], [⟨4, 9⟩]]).bind fun t191 => (some ((t191.length : Int) == 5))) else (some false)))) else (some false)) ?_
  simp only [if_true]
  refine Ev.bind n1 (f := fun k t => (q1z.f k t [⟨5, 4294967295⟩]).bind fun t181 => (if t181 = true then ((q3z.f k [[⟨2, 5⟩], [⟨4, 9⟩]]).bind fun t191 => (some ((t191.length : Int) == 5))) else (some false))) ?_
  refine Ev.bind (same_ev _ (by decide)) (f := fun k t => if t = true then ((q3z.f k [[⟨2, 5⟩], [⟨4, 9⟩]]).bind fun t191 => (some ((t191.length : Int) == 5))) else (some false)) ?_
  simp only [if_true]
  exact Ev.bind at_ (f := fun _ t => some ((t.length : Int) == 5)) (Ev.congr (fun _ => by kernel_rfl) (Ev.now true))
end Go.Proofs.Ytconaifcjnpabaa.P

namespace Go.Proofs.Ytconaifcjnpabaa.P
open Go.RowKit Go.Proofs.YtconaifcjnpabaaW.PrintWords Go.Proofs.YtconaifcjnpabaaW.PrintMore
set_option linter.unusedVariables false
set_option linter.unusedSimpArgs false
theorem atomsOf_len (C : List Int) : ∀ f, (atomsOf f C).length = C.length + 1 := by
  induction C with
  | nil => intro f; rfl
  | cons c cs ih => intro f; simp only [atomsOf, List.length_cons, ih]
/-- Where atom i begins, and where it ends. -/
def lowA (C : List Int) (i : Nat) : Int := (0 :: C).getD i 0
def highA (C : List Int) (i : Nat) : Int := if i < C.length then C.getD i 0 - 1 else 4294967295
theorem atomsOf_get (C : List Int) : ∀ (f : Int) (i : Nat) (h : i < (atomsOf f C).length), (atomsOf f C)[i] = ⟨(f :: C).getD i 0, highA C i⟩ := by
  induction C with
  | nil =>
    intro f i h
    have h0 : i = 0 := by simp [atomsOf] at h; omega
    subst h0
    rfl
  | cons c cs ih =>
    intro f i h
    cases i with
    | zero => simp [atomsOf, highA]
    | succ i =>
      have h' : i < (atomsOf c cs).length := by simpa [atomsOf] using h
      have e : (atomsOf f (c :: cs))[i + 1] = (atomsOf c cs)[i] := rfl
      rw [e, ih c i h']
      simp [highA]
structure Cuts (L : List (List S33)) (C : List Int) : Prop where
  t : Turns L C
  r : ∀ l ∈ L, Rng l
theorem low_zero (C : List Int) : lowA C 0 = 0 := rfl
theorem low_succ (C : List Int) (i : Nat) (h : i < C.length) : lowA C (i + 1) = C[i] := by simp [lowA, h]
theorem high_lt (C : List Int) (i : Nat) (h : i < C.length) : highA C i = C[i] - 1 := by simp [highA, h]
theorem high_last (C : List Int) : highA C C.length = 4294967295 := by simp [highA]
/-- Within an atom no set turns. -/
theorem still {L : List (List S33)} {C : List Int} (h : Cuts L C) (l : List S33) (hl : l ∈ L) (c : Int) (h0 : 0 ≤ c) : ∀ (d : Nat) (x : Int), x = c + d → x ≤ 4294967295 → (∀ z ∈ C, c < z → x < z) → InS l x = InS l c
  | 0, x, hx, _, _ => by rw [hx]; simp
  | d + 1, x, hx, hm, hz => by
    have ih := still h l hl c h0 d (x - 1) (by omega) (by omega) (fun z hz' hc => by have := hz z hz' hc; omega)
    rw [← ih]
    apply Classical.byContradiction
    intro hne
    have hm' := (h.t.2 x).2 ⟨by omega, hm, l, hl, hne⟩
    have := hz x hm' (by omega)
    omega
theorem low_rng {L : List (List S33)} {C : List Int} (h : Cuts L C) (i : Nat) (hi : i ≤ C.length) : 0 ≤ lowA C i ∧ lowA C i ≤ highA C i ∧ highA C i ≤ 4294967295 := by
  have hr := h.t.1
  have hm : ∀ j (hj : j < C.length), 0 < C[j] ∧ C[j] ≤ 4294967295 := fun j hj => by
    have := (h.t.2 C[j]).1 (List.getElem_mem hj)
    exact ⟨this.1, this.2.1⟩
  have hlo : 0 ≤ lowA C i ∧ lowA C i ≤ 4294967295 := by
    cases i with
    | zero => rw [low_zero]; omega
    | succ i => rw [low_succ C i (by omega)]; have := hm i (by omega); omega
  by_cases e : i < C.length
  · have hc := hm i e
    rw [high_lt C i e]
    refine ⟨hlo.1, ?_, by omega⟩
    cases i with
    | zero => rw [low_zero]; omega
    | succ i =>
      rw [low_succ C i (by omega)]
      unfold Rising at hr
      have := List.pairwise_iff_getElem.1 hr i (i + 1) (by omega) e (by omega)
      omega
  · have e2 : i = C.length := by omega
    rw [e2, high_last]
    rw [e2] at hlo
    exact ⟨hlo.1, hlo.2, by omega⟩
theorem in_atom {L : List (List S33)} {C : List Int} (h : Cuts L C) (l : List S33) (hl : l ∈ L) (i : Nat) (hi : i ≤ C.length) (x : Int) (h0 : lowA C i ≤ x) (h1 : x ≤ highA C i) : InS l x = InS l (lowA C i) := by
  have hr := low_rng h i hi
  refine still h l hl (lowA C i) hr.1 (x - lowA C i).toNat x (by omega) (by omega) ?_
  intro z hz hc
  obtain ⟨j, hj, rfl⟩ := List.getElem_of_mem hz
  have hri := h.t.1
  unfold Rising at hri
  have hij : i ≤ j := by
    apply Classical.byContradiction
    intro hn
    cases i with
    | zero => omega
    | succ i =>
      rw [low_succ C i (by omega)] at hc
      rcases Nat.lt_or_ge j i with q | q
      · have := List.pairwise_iff_getElem.1 hri j i hj (by omega) q
        omega
      · have e : j = i := by omega
        subst e
        omega
  rw [high_lt C i (by omega)] at h1
  rcases Nat.lt_or_ge i j with q | q
  · have := List.pairwise_iff_getElem.1 hri i j (by omega) hj q
    omega
  · have e : j = i := by omega
    subst e
    omega
theorem differs {L : List (List S33)} {C : List Int} (h : Cuts L C) (i : Nat) (hi : i < C.length) : ∃ l ∈ L, InS l (lowA C (i + 1)) ≠ InS l (lowA C i) := by
  obtain ⟨_, _, l, hl, hne⟩ := (h.t.2 C[i]).1 (List.getElem_mem hi)
  have hr := low_rng h i (by omega)
  have e := in_atom h l hl i (by omega) (C[i] - 1) (by rw [high_lt C i hi] at hr; exact hr.2.1) (by rw [high_lt C i hi]; exact Int.le_refl _)
  refine ⟨l, hl, ?_⟩
  rw [low_succ C i hi, ← e]
  exact hne
theorem meet_atom {L : List (List S33)} {C : List Int} (h : Cuts L C) (l : List S33) (hl : l ∈ L) (hll : l.length ≤ 1000) (i : Nat) (hi : i ≤ C.length) :
    Ev (fun k => q4z.f k l [⟨lowA C i, highA C i⟩]) (if InS l (lowA C i) = true then [⟨lowA C i, highA C i⟩] else []) := by
  have hr := low_rng h i hi
  have hn := nf1 (lowA C i) (highA C i) hr.1 hr.2.1 hr.2.2
  obtain ⟨r, e1, n1, n2, _⟩ := meet_ev l [⟨lowA C i, highA C i⟩] (by omega) (by simp) (h.r l hl) (NF_Rng hn)
  have hone : ∀ n, InS [(⟨lowA C i, highA C i⟩ : S33)] n = decide (lowA C i ≤ n ∧ n ≤ highA C i) := fun n => by
    simp [InS, inSpan]
  by_cases hin : InS l (lowA C i) = true
  · rw [if_pos hin]
    have : r = [⟨lowA C i, highA C i⟩] := nf_ext n1 hn (fun n => by
      rw [n2, hone]
      by_cases hx : lowA C i ≤ n ∧ n ≤ highA C i
      · rw [in_atom h l hl i hi n hx.1 hx.2, hin, decide_eq_true hx]; rfl
      · rw [decide_eq_false hx, Bool.and_false])
    rw [this] at e1
    exact e1
  · rw [if_neg hin]
    have : r = [] := nf_ext n1 NF_nil (fun n => by
      rw [n2, hone, InS_nil]
      by_cases hx : lowA C i ≤ n ∧ n ≤ highA C i
      · rw [in_atom h l hl i hi n hx.1 hx.2]
        cases e : InS l (lowA C i) with
        | true => exact absurd e hin
        | false => rfl
      · rw [decide_eq_false hx, Bool.and_false])
    rw [this] at e1
    exact e1
theorem slice_one (A : List S33) (i : Nat) (h : i < A.length) : (A.take (i + 1)).drop i = [A[i]] := by
  rw [List.drop_take]
  have e : i + 1 - i = 1 := by omega
  rw [e, List.drop_eq_getElem_cons h]
  rfl
/-- The law's look at one atom: every set has all of it or none; one of them turns there. -/
theorem cuts_l2 (L : List (List S33)) (C : List Int) (hC : Cuts L C) (hL : L.length ≤ 20) (hS : ∀ l ∈ L, l.length ≤ 1000) (hc : C.length ≤ 400000) (i : Nat) (hi : i ≤ C.length) : ∀ (d j : Nat) (g : Bool), j + d = L.length →
    (g = true ∨ 0 < i ∧ ∃ l ∈ L.drop j, InS l (lowA C i) ≠ InS l (lowA C (i - 1))) →
    Ev (fun k => q7z.l1 k L (atomsOf 0 C) (atomsOf 0 C) ((atomsOf 0 C).length : Int) (wrap64 ((i : Int) + 1))) true →
    Ev (fun k => q7z.l2 k L (atomsOf 0 C) (i : Int) g (atomsOf 0 C) ((atomsOf 0 C).length : Int) (i : Int) L (L.length : Int) (j : Int) (lowA C i) (highA C i)) true
  | 0, j, g, hj, hg, h => by
    refine Ev.step (fun k => ?_) h
    simp only [q7z.l2]
    have hg' : g = true := by
      rcases hg with q | ⟨_, l, q, _⟩
      · exact q
      · rw [List.drop_eq_nil_of_le (by omega)] at q; simp at q
    rw [if_neg (by omega), if_pos hg']
  | d + 1, j, g, hj, hg, h => by
    have hjl : j < L.length := by omega
    have hl : L[j] ∈ L := List.getElem_mem hjl
    have hrd : rd_L2 L (j : Int) = L[j] := rdL L j hjl
    have hdrop : L.drop j = L[j] :: L.drop (j + 1) := List.drop_eq_getElem_cons hjl
    rw [hdrop] at hg
    have hsl := hS _ hl
    have hm := meet_atom hC L[j] hl hsl i hi
    generalize L[j] = s at hl hrd hg hm hsl
    have hal := atomsOf_len C 0
    have hget := atomsOf_get C 0 i (by omega)
    have hsl1 : ((atomsOf 0 C).take ((i : Int) + 1).toNat).drop (i : Int).toNat = [⟨lowA C i, highA C i⟩] := by
      have e1 : ((i : Int) + 1).toNat = i + 1 := by omega
      rw [e1, Int.toNat_natCast, slice_one _ i (by omega), hget]
      rfl
    have hw : wrap64 ((i : Int) + 1) = (i : Int) + 1 := wr _ (by omega) (by omega)
    have hin : ∀ n, span_In.f s n = some (InS s n) := fun n => in_f s n (by omega)
    -- what the flag is next
    have hprev : 0 < i → rd_T33 (atomsOf 0 C) ((i - 1 : Nat) : Int) = ⟨lowA C (i - 1), highA C (i - 1)⟩ := fun h0 => by
      rw [rdS _ (i - 1) (by omega), atomsOf_get C 0 (i - 1) (by omega)]
      rfl
    obtain ⟨g2, hg2, hgn⟩ : ∃ g2 : Bool, (g = true → g2 = true) ∧ (g = false → g2 = (InS s (lowA C i) != InS s (lowA C (i - 1)))) := by
      cases g with
      | true => exact ⟨true, fun _ => rfl, fun q => absurd q (by decide)⟩
      | false => exact ⟨_, fun q => absurd q (by decide), fun _ => rfl⟩
    have hnext : g2 = true ∨ 0 < i ∧ ∃ l ∈ L.drop (j + 1), InS l (lowA C i) ≠ InS l (lowA C (i - 1)) := by
      rcases hg with q | ⟨q0, l, q1, q2⟩
      · exact .inl (hg2 q)
      · rcases List.mem_cons.1 q1 with rfl | q1
        · left
          cases g with
          | true => exact hg2 rfl
          | false => rw [hgn rfl]; exact bne_iff_ne.2 q2
        · exact .inr ⟨q0, l, q1, q2⟩
    have hpos : g = false → 0 < i := fun q => by
      rcases hg with q2 | ⟨q2, _⟩
      · rw [q] at q2; exact absurd q2 (by decide)
      · exact q2
    have ih := cuts_l2 L C hC hL hS hc i hi d (j + 1) g2 (by omega) hnext h
    have hsame := same_ev [(⟨lowA C i, highA C i⟩ : S33)] (by simp)
    have hw1 : wrap64 ((j : Int) + 1) = ((j + 1 : Nat) : Int) := wr1 j (by omega)
    cases hv : InS s (lowA C i) with
    | true =>
      rw [hv, if_pos rfl] at hm
      rw [hv] at hgn
      refine Ev.step (fun k => ?_) (Ev.bind hm (f := fun k t17 => (q1z.f k t17 [(⟨lowA C i, highA C i⟩ : S33)]).bind fun t25 => if t25 = true then q7z.l2 k L (atomsOf 0 C) (i : Int) g2 (atomsOf 0 C) ((atomsOf 0 C).length : Int) (i : Int) L (L.length : Int) ((j + 1 : Nat) : Int) (lowA C i) (highA C i) else some false) (Ev.bind hsame (f := fun k t25 => if t25 = true then q7z.l2 k L (atomsOf 0 C) (i : Int) g2 (atomsOf 0 C) ((atomsOf 0 C).length : Int) (i : Int) L (L.length : Int) ((j + 1 : Nat) : Int) (lowA C i) (highA C i) else some false) (by simp only [if_true]; exact ih)))
      simp only [q7z.l2]
      rw [if_pos (by omega), if_pos (by omega), if_pos (by omega), if_pos (by omega), hw, if_pos (by omega), if_pos (by omega), hrd, hsl1]
      congr 1
      funext t17
      rw [hin, Option.bind_some, hv, if_pos rfl]
      congr 1
      funext t25
      cases t25 with
      | false => rfl
      | true =>
        rw [if_pos rfl, if_pos rfl, hw1]
        cases g with
        | true => rw [if_pos rfl, hg2 rfl]
        | false =>
          have h0 := hpos rfl
          rw [if_neg (by decide), wr2 i (by omega) h0, if_pos (by omega), if_pos (by omega), hprev h0, hin, Option.bind_some, hgn rfl]
    | false =>
      rw [hv, if_neg (by decide)] at hm
      rw [hv] at hgn
      refine Ev.step (fun k => ?_) (Ev.bind hm (f := fun k t17 => if (t17.length : Int) = 0 then q7z.l2 k L (atomsOf 0 C) (i : Int) g2 (atomsOf 0 C) ((atomsOf 0 C).length : Int) (i : Int) L (L.length : Int) ((j + 1 : Nat) : Int) (lowA C i) (highA C i) else some false) (Ev.congr (fun n => if_pos (by simp)) ih))
      simp only [q7z.l2]
      rw [if_pos (by omega), if_pos (by omega), if_pos (by omega), if_pos (by omega), hw, if_pos (by omega), if_pos (by omega), hrd, hsl1]
      congr 1
      funext t17
      rw [hin, Option.bind_some, hv, if_neg (by decide)]
      by_cases ht : (t17.length : Int) = 0
      · rw [if_pos ht, if_pos ht, hw1]
        cases g with
        | true => rw [if_pos rfl, hg2 rfl]
        | false =>
          have h0 := hpos rfl
          rw [if_neg (by decide), wr2 i (by omega) h0, if_pos (by omega), if_pos (by omega), hprev h0, hin, Option.bind_some, hgn rfl]
      · rw [if_neg ht, if_neg ht]
theorem cuts_l1 (L : List (List S33)) (C : List Int) (hC : Cuts L C) (hL : L.length ≤ 20) (hS : ∀ l ∈ L, l.length ≤ 1000) (hc : C.length ≤ 400000) : ∀ (d i : Nat), i + d = (atomsOf 0 C).length →
    Ev (fun k => q7z.l1 k L (atomsOf 0 C) (atomsOf 0 C) ((atomsOf 0 C).length : Int) (i : Int)) true
  | 0, i, hi => by
    refine Ev.step (f := fun _ => some true) (fun k => ?_) (Ev.now _)
    simp only [q7z.l1]
    rw [if_neg (by omega)]
  | d + 1, i, hi => by
    have hal := atomsOf_len C 0
    have hil : i ≤ C.length := by omega
    have hr := low_rng hC i hil
    have hrd : rd_T33 (atomsOf 0 C) (i : Int) = ⟨lowA C i, highA C i⟩ := by
      rw [rdS _ i (by omega), atomsOf_get C 0 i (by omega)]
      rfl
    have ih := cuts_l1 L C hC hL hS hc d (i + 1) (by omega)
    have hl2 := cuts_l2 L C hC hL hS hc i hil L.length 0 ((i : Int) == 0) (by omega) (by
      by_cases h0 : i = 0
      · left; subst h0; rfl
      · right
        have := differs hC (i - 1) (by omega)
        have e : i - 1 + 1 = i := by omega
        rw [e] at this
        rw [List.drop_zero]
        exact ⟨by omega, this⟩) (by rw [wr1 i (by omega)]; exact ih)
    have hj3 : Ev (fun k => q7z.j3 k L (atomsOf 0 C) (i : Int) (atomsOf 0 C) ((atomsOf 0 C).length : Int) (i : Int) false (lowA C i) (highA C i)) true := by
      refine Ev.step (fun k => ?_) hl2
      simp only [q7z.j3]
      rw [if_neg (by decide)]
      rfl
    refine Ev.step (fun k => ?_) hj3
    simp only [q7z.l1]
    rw [if_pos (by omega), if_pos (by omega), if_pos (by omega), hrd]
    simp only []
    rw [if_neg (by omega)]
    by_cases h0 : i = 0
    · rw [if_neg (by omega)]
    · have hp : rd_T33 (atomsOf 0 C) ((i - 1 : Nat) : Int) = ⟨lowA C (i - 1), highA C (i - 1)⟩ := by
        rw [rdS _ (i - 1) (by omega), atomsOf_get C 0 (i - 1) (by omega)]
        rfl
      have hci := (hC.t.2 C[i - 1]).1 (List.getElem_mem (by omega))
      have e1 : highA C (i - 1) = C[i - 1] - 1 := high_lt C (i - 1) (by omega)
      have e2 : lowA C i = C[i - 1] := by
        have := low_succ C (i - 1) (by omega)
        rwa [show i - 1 + 1 = i by omega] at this
      rw [if_pos (by omega), wr2 i (by omega) (by omega), if_pos (by omega), if_pos (by omega), hp]
      simp only []
      rw [if_neg (by omega)]
      have e3 : (lowA C i != (highA C (i - 1) + 1) % 4294967296) = false := by
        rw [bne_eq_false_iff_eq]
        omega
      rw [e3]
theorem cuts_l0 (L : List (List S33)) (hL : L.length ≤ 20) (hr : ∀ l ∈ L, Rng l) : ∀ (d i : Nat), i + d = L.length → (∀ l ∈ L.take i, l.length ≤ 20) → Ev (fun k => q7z.l0 k L L (L.length : Int) (i : Int)) true
  | 0, i, hi, ht => by
    rw [List.take_of_length_le (by omega)] at ht
    have hS : Sets L := ⟨by omega, fun l hl => ⟨hr l hl, by have := ht l hl; omega⟩⟩
    obtain ⟨C, e1, t1, c1⟩ := patoms_ev L hS
    have hC : Cuts L C := ⟨t1, hr⟩
    have hal := atomsOf_len C 0
    have hl1 := cuts_l1 L C hC hL (fun l hl => by have := ht l hl; omega) c1 (atomsOf 0 C).length 0 (by omega)
    have hj1 : Ev (fun k => q7z.j1 k L (atomsOf 0 C) false) true := by
      refine Ev.step (fun k => ?_) hl1
      simp only [q7z.j1]
      rw [if_neg (by decide)]
      rfl
    refine Ev.step (fun k => ?_) (Ev.bind e1 (f := fun k t3 => if (t3.length : Int) = 0 then (q7z.j1 k L t3 true) else (if 0 < (t3.length : Int) then (if ((rd_T33 t3 0).f0) = 0 then (if 0 ≤ (wrap64 ((t3.length : Int) - 1)) then (if (wrap64 ((t3.length : Int) - 1)) < (t3.length : Int) then (q7z.j1 k L t3 (((rd_T33 t3 (wrap64 ((t3.length : Int) - 1))).f1) != 4294967295)) else (none)) else (none)) else (q7z.j1 k L t3 true)) else (none))) (Ev.congr (fun k => ?_) hj1))
    · simp only [q7z.l0]
      rw [if_neg (by omega)]
    · have h0 : rd_T33 (atomsOf 0 C) 0 = ⟨0, highA C 0⟩ := by
        have := rdS (atomsOf 0 C) 0 (by omega)
        rw [atomsOf_get C 0 0 (by omega)] at this
        exact this
      have hz : rd_T33 (atomsOf 0 C) ((C.length : Nat) : Int) = ⟨lowA C C.length, highA C C.length⟩ := by
        rw [rdS _ C.length (by omega), atomsOf_get C 0 C.length (by omega)]
        rfl
      have hw : wrap64 (((atomsOf 0 C).length : Int) - 1) = (C.length : Int) := by rw [wr _ (by omega) (by omega)]; omega
      rw [if_neg (by omega), if_pos (by omega), h0, hw, hz, high_last]
      simp only []
      rw [if_pos trivial, if_pos (by omega), if_pos (by omega)]
      rfl
  | d + 1, i, hi, ht => by
    have hil : i < L.length := by omega
    have hrd : rd_L2 L (i : Int) = L[i] := rdL L i hil
    have htk : L.take (i + 1) = L.take i ++ [L[i]] := by rw [List.take_append_getElem hil]
    generalize hs : L[i] = s at hrd htk
    by_cases hg : (s.length : Int) > 20
    · refine Ev.step (f := fun _ => some true) (fun k => ?_) (Ev.now _)
      simp only [q7z.l0]
      rw [if_pos (by omega), if_pos (by omega), if_pos (by omega), hrd, if_pos hg]
    · have ih := cuts_l0 L hL hr d (i + 1) (by omega) (fun l hl => by
        rw [htk] at hl
        rcases List.mem_append.1 hl with q | q
        · exact ht l q
        · rw [List.mem_singleton.1 q]; omega)
      refine Ev.step (fun k => ?_) ih
      simp only [q7z.l0]
      rw [if_pos (by omega), if_pos (by omega), if_pos (by omega), hrd, if_neg hg, wr1 i (by omega)]
theorem pure_SpanCuts (l0 : List (List (S33))) (h0 : (l0.length ≤ 9223372036854775807 ∧ ∀ z_ ∈ l0, (z_.length ≤ 9223372036854775807 ∧ ∀ z_z ∈ z_, good33 z_z))) : ∃ k, q7z.f k l0 = some true := by
  refine (Ev.bind alive_ev (f := fun k t1 => if t1 = true then (if (l0.length : Int) > 20 then (some true) else (q7z.l0 k l0 l0 (l0.length : Int) 0)) else (some false)) ?_).rounds
  simp only [if_true]
  by_cases h : (l0.length : Int) > 20
  · exact Ev.congr (fun k => if_pos h) (Ev.now true)
  · exact Ev.congr (fun k => if_neg h) (cuts_l0 l0 (by omega) (fun l hl => Rng_of_good l (h0.2 l hl).2) l0.length 0 (by omega) (by simp))
end Go.Proofs.Ytconaifcjnpabaa.P

namespace Go.Proofs.Ytconaifcjnpabaa.spanCuts
open Go.ChangeShapes Go.WideShapes Go.ChangeAt Go.RowKit
open Go.ChangeMaps (open_string shut_string)
open Go.Proofs.YtconaifcjnpabaaW.PrintWords Go.Proofs.YtconaifcjnpabaaW.PrintLast Go.Proofs.YtconaifcjnpabaaW.PrintMore Go.Proofs.Ytconaifcjnpabaa.P
set_option linter.unusedVariables false
set_option linter.unusedSimpArgs false
theorem own : ownKnob Try.prog.godebug = none := by kernel_rfl
theorem laidOut : laidOutB Try.prog = true := by kernel_rfl
set_option maxRecDepth 100000 in
theorem lifted (os : Os) (started : os.Started) (H : Type) (enc : TypeId × Value → H) :
    ReturnsInHanded {} Try.checked os 5 .any (Rows.spanCutsSpec.pre6 enc Try.prog Try.f5 Rows.spanCutsRow.domain false) (Rows.spanCutsSpec.post enc Try.prog Try.f5 false true false false) := by
  refine returnsInHanded_of_change_sized (C := Try.checked) own started (by kernel_rfl) Try.func5
    (ChangeSpec.witness6 (enc := enc) (C := Try.checked) false ⟨#[], #[.slice none 0 0], []⟩ 8 (by kernel_rfl) (by kernel_rfl) (by kernel_rfl) (by kernel_rfl)) ?_
  intro W base args ds gs before hval0 hW hcnd hsz0 _
  have hval : ∀ (j : Nat) t v, Try.f5.params[j]? = some t → args[j]? = some v → Value.okWide Try.prog W .any base t v := hval0
  have hW' := hW
  obtain ⟨p, q, hA0, hV, rfl, hfz, hnd⟩ := hW
  have hA : DataW.TrodAll enc Try.prog W 0 (fun _ => true) true Try.f5.params.toList args.toList ds p := hA0
  rw [Try.params5] at hA hval
  obtain ⟨v0, vs0, d0, ds0, p0, q0, hargs, rfl, rfl, h0, r0⟩ := trodAll_cons hA
  obtain ⟨rfl, rfl, rfl⟩ := trodAll_nil r0
  obtain rfl : args = #[v0] := by cases args; simp_all
  obtain ⟨rfl, rfl⟩ := trodVars_none hV
  obtain ⟨a0, len0, cap0, rfl⟩ := okWide_slice Try.underlying22 (hval 0 22 v0 rfl rfl)
  have k0 := h0
  have lt0 : ∀ x ∈ p0, x.block < W.heap.size := by obtain ⟨m, hm⟩ := k0; exact DataW.trod_lt m _ _ _ hm
  obtain ⟨l0, hK0, hg0⟩ : ∃ l_ : List (List (S33)), (Kd.slice 24 (Kd.slice 33 k33)).K W l_ [.slice a0 len0 cap0] ∧ (l_.length ≤ 9223372036854775807 ∧ ∀ z_ ∈ l_, (z_.length ≤ 9223372036854775807 ∧ ∀ z_z ∈ z_, good33 z_z)) := by obtain ⟨fuel, hf⟩ := h0; exact (opens_slice Try.underlying22 (by kernel_rfl) (opens_slice Try.underlying24 (by kernel_rfl) opens_T33)) _ _ _ (by simpa [Value.cells] using hf)
  obtain ⟨A0_, c0_, hc0, hle0, hC0⟩ := hK0
  simp only [List.cons.injEq, Value.slice.injEq, and_true] at hc0
  obtain ⟨rfl, rfl, rfl⟩ := hc0
  clear hA0 hval0 hsz0
  obtain ⟨k_, hk_⟩ := pure_SpanCuts l0 hg0
  refine (q7z.calls k_ a0 cap0 l0 true W hC0 hle0 hk_).mono fun e W' ⟨he, bel⟩ => ?_
  subst he
  exact ⟨_, rfl, _, _, _, [], _, [], hW', trodAll_mk1 (shut_bool Try.underlying4 _), (trodAll_cons_mk (Below.trod laidOut (by kernel_rfl) (of_decide_eq_true (by kernel_rfl)) k0 bel lt0) trodAll_mk0), rfl, bel.frame _, fun h => by cases h⟩
theorem over : Rows.spanCutsRow.holds Try.pinned (OpenSpec.ofChange Rows.spanCutsSpec) :=
  OpenClaim.holds_of_wide 5 Try.f5 rfl rfl rfl rfl rfl rfl rfl ⟨rfl, rfl, rfl, rfl, rfl⟩ rfl rfl rfl rfl rfl (by kernel_rfl) Try.func5 (by kernel_rfl)
    (of_decide_eq_true (by kernel_rfl)) (by unfold Func.isWrapper; first | (rw [if_pos (by decide +kernel)]; kernel_rfl) | (rw [if_neg (by decide +kernel)]; exact ⟨rfl, rfl⟩))
    (fun os started H enc _ => lifted os started H enc)
theorem proved : Rows.SpanCutsSaid := over
end Go.Proofs.Ytconaifcjnpabaa.spanCuts
namespace Go.Proofs.Ytconaifcjnpabaa
/-- The row, under a short name, for the claim. -/
theorem spanCuts_holds : Rows.SpanCutsSaid := spanCuts.proved
#print axioms spanCuts_holds
end Go.Proofs.Ytconaifcjnpabaa
