/-
  Proved: for every input the law RouteCanon answers true, and each argument reads behind the call as it read before.
  Conditions: none beside the row's own.
-/
import Derived.Deep.Slices
import Derived.Lib.SlicesCompact
import Derived.Test.YthekledcoeeheaaRows
import Derived.WalkKit
import Derived.ProofKit
import Derived.OpenShut
import Derived.ShutString
import Derived.ChangeOld
import Derived.Below
import Derived.SizedLaws
import Derived.Test.YthekledcoeeheaaCRouteCanon0
import Derived.Test.YthekledcoeeheaaCRouteCanon1
import Derived.Test.YthekledcoeeheaaCRouteCanon2
set_option linter.unusedVariables false
set_option linter.unusedSimpArgs false
namespace Go.Proofs.Ythekledcoeeheaa.P
open Go.RowKit Go.Proofs.YthekledcoeeheaaW.PrintWords Go.Proofs.YthekledcoeeheaaW.PrintLast Go.Proofs.YthekledcoeeheaaW.PrintMore Go.ChangeShapes Go.WideShapes
section
variable {H : Type} {enc : TypeId × Value → H} {P : Program} {w : World} {base : Nat} {spare : Nat → Bool} {held : Bool}
/-- Whatever reads as data of type T is a value of kind d. -/
def Opens (enc : TypeId × Value → H) (P : Program) (w : World) (base : Nat) (spare : Nat → Bool) (held : Bool) {α : Type} (d : Kd α) (T : TypeId) (good : α → Prop) : Prop :=
  ∀ fuel cs y, DataW.trod enc P w base spare held fuel T cs = some y → ∃ x, d.K w x cs ∧ good x
theorem opens_int {k : IntKind} {T : TypeId} (ht : P.underlying T = some (.int k)) : Opens enc P w base spare held (Kd.int k) T (fun n => (Lit.int k n).wf = true) := by
  intro fuel cs y h
  obtain ⟨n, rfl, _, hw⟩ := DataW.trod_int ht h
  exact ⟨n, rfl, hw⟩
theorem pick_list {α : Type} {Q : Nat → α → Prop} : ∀ n : Nat, (∀ i, i < n → ∃ x, Q i x) → ∃ xs : List α, xs.length = n ∧ ∀ i x, xs[i]? = some x → Q i x
  | 0, _ => ⟨[], rfl, fun i x h => by simp at h⟩
  | n + 1, h => by
    obtain ⟨xs, hl, hx⟩ := pick_list n (fun i hi => h i (by omega))
    obtain ⟨x, hxn⟩ := h n (by omega)
    refine ⟨xs ++ [x], by simp [hl], fun i z hz => ?_⟩
    by_cases hi : i < n
    · rw [List.getElem?_append_left (by omega)] at hz
      exact hx i z hz
    · rw [List.getElem?_append_right (by omega)] at hz
      have hi0 : i - xs.length = 0 := by
        have := (List.getElem?_eq_some_iff.1 hz).1
        simp at this
        omega
      rw [hi0] at hz
      have : x = z := by simpa using hz
      subst this
      have : i = n := by omega
      subst this
      exact hxn
theorem opens_slice {α : Type} {d : Kd α} {T e : TypeId} {good : α → Prop} (ht : P.underlying T = some (.slice e)) (hce : P.cellsOf e = d.sz) (ho : Opens enc P w base spare held d e good) :
    Opens enc P w base spare held (Kd.slice e d) T (fun xs => xs.length ≤ 9223372036854775807 ∧ ∀ x ∈ xs, good x) := by
  intro fuel cs y h
  rcases Go.Deep.open_slice ht h with ⟨rfl, _⟩ | ⟨a, len, cap, m, n, D, Pl, rfl, hb, hl, hm, hmm, _, hx⟩
  · exact ⟨[], ⟨none, 0, rfl, Nat.le_refl _, ⟨rfl, by simp, fun h => absurd h (by simp)⟩⟩, by simp, fun x hx => (List.not_mem_nil hx).elim⟩
  · have hlm : len ≤ m := by rw [hmm]; split <;> omega
    have each : ∀ i, i < len → ∃ q : α × List Value, w.cells? base (a.add (i * d.sz)) d.sz = some q.2 ∧ d.K w q.1 q.2 ∧ good q.1 := fun i hi => by
      obtain ⟨cs', h1, h2⟩ := hx i (by omega)
      obtain ⟨x, hk, hg⟩ := ho _ _ _ h2
      rw [hce] at h1
      exact ⟨(x, cs'), h1, hk, hg⟩
    obtain ⟨qs, hql, hq⟩ := pick_list len each
    refine ⟨qs.map (·.1), ⟨some a, cap, by simp [hql], by simp [hql]; omega, ?_⟩, by simp only [List.length_map, hql]; unfold maxLen at hm; omega, ?_⟩
    · refine ⟨rfl, by simp only [List.length_map, hql]; unfold maxLen at hm; omega, fun _ => ⟨a, rfl, fun j p hp => ?_⟩⟩
      rw [List.getElem?_map] at hp
      obtain ⟨q, hqj, rfl⟩ := Option.map_eq_some_iff.1 hp
      obtain ⟨h1, h2, _⟩ := hq j q hqj
      obtain ⟨_, h4, h5⟩ := World.cells?_some h1
      refine ⟨q.2, h4, h2, fun i u hu => ?_⟩
      have hi : i < d.sz := by have := (List.getElem?_eq_some_iff.1 hu).1; omega
      have h6 := h5 i hi
      rw [add_add] at h6
      rw [h6, hu]
    · intro x hx'
      obtain ⟨q, hq', rfl⟩ := List.mem_map.1 hx'
      obtain ⟨i, hi⟩ := List.getElem?_of_mem hq'
      exact (hq i q hi).2.2
end
end Go.Proofs.Ythekledcoeeheaa.P
namespace Go.Proofs.Ythekledcoeeheaa.P
open Go.RowKit Go.Proofs.YthekledcoeeheaaW.PrintWords Go.Proofs.YthekledcoeeheaaW.PrintMore Go.ChangeShapes Go.WideShapes
def good35 (x : S35) : Prop := (Lit.int .u32 x.f0).wf = true ∧ (Lit.int .i64 x.f1).wf = true
theorem opens_T35 {H : Type} {enc : TypeId × Value → H} {w : World} {base : Nat} {spare : Nat → Bool} {held : Bool} : Opens enc Try.prog w base spare held k35 35 good35 := by
  intro fuel cs y h
  obtain ⟨xs, n, _, _, hlen, hxl, hf⟩ := DataW.trod_struct Try.underlying35 h
  have hcs : cs.length = 2 := hlen.trans (by kernel_rfl)
  have h0 := hf 0 _ rfl
  obtain ⟨y0, e0⟩ : ∃ y_, xs[0]? = some y_ := ⟨_, List.getElem?_eq_getElem (by rw [hxl]; decide)⟩
  rw [e0] at h0
  have q0 : DataW.trod enc Try.prog w base spare held n 33 ((cs.drop 0).take 1) = some y0 := (congrArg (fun z => DataW.trod enc Try.prog w base spare held n 33 ((cs.drop 0).take z)) (show 1 = Try.prog.cellsOf 33 from by kernel_rfl)).trans h0
  obtain ⟨x0, k0_, g0⟩ := (opens_int Try.underlying33) _ _ _ q0
  have h1 := hf 1 _ rfl
  obtain ⟨y1, e1⟩ : ∃ y_, xs[1]? = some y_ := ⟨_, List.getElem?_eq_getElem (by rw [hxl]; decide)⟩
  rw [e1] at h1
  have q1 : DataW.trod enc Try.prog w base spare held n 3 ((cs.drop 1).take 1) = some y1 := (congrArg (fun z => DataW.trod enc Try.prog w base spare held n 3 ((cs.drop 1).take z)) (show 1 = Try.prog.cellsOf 3 from by kernel_rfl)).trans h1
  obtain ⟨x1, k1_, g1⟩ := (opens_int Try.underlying3) _ _ _ q1
  have s0 : cs.drop 0 = (cs.drop 0).take 1 ++ cs.drop 1 := by have e_ := (List.take_append_drop 1 (cs.drop 0)).symm; rwa [List.drop_drop] at e_
  have s1 : cs.drop 1 = (cs.drop 1).take 1 := (List.take_of_length_le (by rw [List.length_drop, hcs]; decide)).symm
  exact ⟨⟨x0, x1⟩, ⟨(cs.drop 0).take 1, cs.drop 1, (show cs = _ from s0), k0_, (by rw [s1]; exact k1_)⟩, g0, g1⟩
def good38 (x : S38) : Prop := good35 x.f0 ∧ (x.f1.length ≤ 9223372036854775807 ∧ ∀ z_ ∈ x.f1, (Lit.int .u32 z_).wf = true) ∧ (x.f2.length ≤ 9223372036854775807 ∧ ∀ z_ ∈ x.f2, (Lit.int .u32 z_).wf = true) ∧ (Lit.int .u32 x.f3).wf = true ∧ (Lit.int .u32 x.f4).wf = true ∧ (Lit.int .i64 x.f5).wf = true ∧ (Lit.int .u32 x.f6).wf = true
theorem opens_T38 {H : Type} {enc : TypeId × Value → H} {w : World} {base : Nat} {spare : Nat → Bool} {held : Bool} : Opens enc Try.prog w base spare held k38 38 good38 := by
  intro fuel cs y h
  obtain ⟨xs, n, _, _, hlen, hxl, hf⟩ := DataW.trod_struct Try.underlying38 h
  have hcs : cs.length = 8 := hlen.trans (by kernel_rfl)
  have h0 := hf 0 _ rfl
  obtain ⟨y0, e0⟩ : ∃ y_, xs[0]? = some y_ := ⟨_, List.getElem?_eq_getElem (by rw [hxl]; decide)⟩
  rw [e0] at h0
  have q0 : DataW.trod enc Try.prog w base spare held n 35 ((cs.drop 0).take 2) = some y0 := (congrArg (fun z => DataW.trod enc Try.prog w base spare held n 35 ((cs.drop 0).take z)) (show 2 = Try.prog.cellsOf 35 from by kernel_rfl)).trans h0
  obtain ⟨x0, k0_, g0⟩ := opens_T35 _ _ _ q0
  have h1 := hf 1 _ rfl
  obtain ⟨y1, e1⟩ : ∃ y_, xs[1]? = some y_ := ⟨_, List.getElem?_eq_getElem (by rw [hxl]; decide)⟩
  rw [e1] at h1
  have q1 : DataW.trod enc Try.prog w base spare held n 36 ((cs.drop 2).take 1) = some y1 := (congrArg (fun z => DataW.trod enc Try.prog w base spare held n 36 ((cs.drop 2).take z)) (show 1 = Try.prog.cellsOf 36 from by kernel_rfl)).trans h1
  obtain ⟨x1, k1_, g1⟩ := (opens_slice Try.underlying36 (by kernel_rfl) (opens_int Try.underlying33)) _ _ _ q1
  have h2 := hf 2 _ rfl
  obtain ⟨y2, e2⟩ : ∃ y_, xs[2]? = some y_ := ⟨_, List.getElem?_eq_getElem (by rw [hxl]; decide)⟩
  rw [e2] at h2
  have q2 : DataW.trod enc Try.prog w base spare held n 36 ((cs.drop 3).take 1) = some y2 := (congrArg (fun z => DataW.trod enc Try.prog w base spare held n 36 ((cs.drop 3).take z)) (show 1 = Try.prog.cellsOf 36 from by kernel_rfl)).trans h2
  obtain ⟨x2, k2_, g2⟩ := (opens_slice Try.underlying36 (by kernel_rfl) (opens_int Try.underlying33)) _ _ _ q2
  have h3 := hf 3 _ rfl
  obtain ⟨y3, e3⟩ : ∃ y_, xs[3]? = some y_ := ⟨_, List.getElem?_eq_getElem (by rw [hxl]; decide)⟩
  rw [e3] at h3
  have q3 : DataW.trod enc Try.prog w base spare held n 33 ((cs.drop 4).take 1) = some y3 := (congrArg (fun z => DataW.trod enc Try.prog w base spare held n 33 ((cs.drop 4).take z)) (show 1 = Try.prog.cellsOf 33 from by kernel_rfl)).trans h3
  obtain ⟨x3, k3_, g3⟩ := (opens_int Try.underlying33) _ _ _ q3
  have h4 := hf 4 _ rfl
  obtain ⟨y4, e4⟩ : ∃ y_, xs[4]? = some y_ := ⟨_, List.getElem?_eq_getElem (by rw [hxl]; decide)⟩
  rw [e4] at h4
  have q4 : DataW.trod enc Try.prog w base spare held n 33 ((cs.drop 5).take 1) = some y4 := (congrArg (fun z => DataW.trod enc Try.prog w base spare held n 33 ((cs.drop 5).take z)) (show 1 = Try.prog.cellsOf 33 from by kernel_rfl)).trans h4
  obtain ⟨x4, k4_, g4⟩ := (opens_int Try.underlying33) _ _ _ q4
  have h5 := hf 5 _ rfl
  obtain ⟨y5, e5⟩ : ∃ y_, xs[5]? = some y_ := ⟨_, List.getElem?_eq_getElem (by rw [hxl]; decide)⟩
  rw [e5] at h5
  have q5 : DataW.trod enc Try.prog w base spare held n 3 ((cs.drop 6).take 1) = some y5 := (congrArg (fun z => DataW.trod enc Try.prog w base spare held n 3 ((cs.drop 6).take z)) (show 1 = Try.prog.cellsOf 3 from by kernel_rfl)).trans h5
  obtain ⟨x5, k5_, g5⟩ := (opens_int Try.underlying3) _ _ _ q5
  have h6 := hf 6 _ rfl
  obtain ⟨y6, e6⟩ : ∃ y_, xs[6]? = some y_ := ⟨_, List.getElem?_eq_getElem (by rw [hxl]; decide)⟩
  rw [e6] at h6
  have q6 : DataW.trod enc Try.prog w base spare held n 33 ((cs.drop 7).take 1) = some y6 := (congrArg (fun z => DataW.trod enc Try.prog w base spare held n 33 ((cs.drop 7).take z)) (show 1 = Try.prog.cellsOf 33 from by kernel_rfl)).trans h6
  obtain ⟨x6, k6_, g6⟩ := (opens_int Try.underlying33) _ _ _ q6
  have s0 : cs.drop 0 = (cs.drop 0).take 2 ++ cs.drop 2 := by have e_ := (List.take_append_drop 2 (cs.drop 0)).symm; rwa [List.drop_drop] at e_
  have s1 : cs.drop 2 = (cs.drop 2).take 1 ++ cs.drop 3 := by have e_ := (List.take_append_drop 1 (cs.drop 2)).symm; rwa [List.drop_drop] at e_
  have s2 : cs.drop 3 = (cs.drop 3).take 1 ++ cs.drop 4 := by have e_ := (List.take_append_drop 1 (cs.drop 3)).symm; rwa [List.drop_drop] at e_
  have s3 : cs.drop 4 = (cs.drop 4).take 1 ++ cs.drop 5 := by have e_ := (List.take_append_drop 1 (cs.drop 4)).symm; rwa [List.drop_drop] at e_
  have s4 : cs.drop 5 = (cs.drop 5).take 1 ++ cs.drop 6 := by have e_ := (List.take_append_drop 1 (cs.drop 5)).symm; rwa [List.drop_drop] at e_
  have s5 : cs.drop 6 = (cs.drop 6).take 1 ++ cs.drop 7 := by have e_ := (List.take_append_drop 1 (cs.drop 6)).symm; rwa [List.drop_drop] at e_
  have s6 : cs.drop 7 = (cs.drop 7).take 1 := (List.take_of_length_le (by rw [List.length_drop, hcs]; decide)).symm
  exact ⟨⟨x0, x1, x2, x3, x4, x5, x6⟩, ⟨(cs.drop 0).take 2, cs.drop 2, (show cs = _ from s0), k0_, ⟨(cs.drop 2).take 1, cs.drop 3, s1, k1_, ⟨(cs.drop 3).take 1, cs.drop 4, s2, k2_, ⟨(cs.drop 4).take 1, cs.drop 5, s3, k3_, ⟨(cs.drop 5).take 1, cs.drop 6, s4, k4_, ⟨(cs.drop 6).take 1, cs.drop 7, s5, k5_, (by rw [s6]; exact k6_)⟩⟩⟩⟩⟩⟩, g0, g1, g2, g3, g4, g5, g6⟩
end Go.Proofs.Ythekledcoeeheaa.P
namespace Go.Proofs.Ythekledcoeeheaa.P
open Go.RowKit Go.Proofs.YthekledcoeeheaaW.PrintWords Go.Proofs.YthekledcoeeheaaW.PrintMore
theorem wr (i : Int) (h0 : -9223372036854775808 ≤ i) (h1 : i ≤ 9223372036854775807) : wrap64 i = i := by unfold wrap64; omega
theorem wrN (i : Nat) (h : i < 9223372036854775807) : wrap64 ((i : Int) + 1) = ((i + 1 : Nat) : Int) := by rw [wr _ (by omega) (by omega)]; omega
theorem rdI (l : List Int) (i : Nat) (h : i < l.length) : rd l (i : Int) = l[i] := by
  unfold rd
  rw [Int.toNat_natCast, List.getD_eq_getElem?_getD, List.getElem?_eq_getElem h]
  rfl
def U32 (a : Int) : Prop := 0 ≤ a ∧ a ≤ 4294967295
def I64 (a : Int) : Prop := -9223372036854775808 ≤ a ∧ a ≤ 9223372036854775807
theorem u32_of {a : Int} (h : (Lit.int .u32 a).wf = true) : U32 a := by
  simp [Lit.wf, IntKind.min, IntKind.max, IntKind.signed, IntKind.bits] at h
  unfold U32
  omega
theorem i64_of {a : Int} (h : (Lit.int .i64 a).wf = true) : I64 a := by
  simp [Lit.wf, IntKind.min, IntKind.max, IntKind.signed, IntKind.bits] at h
  unfold I64
  omega
theorem U32.wr {a : Int} (h : U32 a) : wrap64 a = a := by obtain ⟨h0, h1⟩ := h; exact Go.Proofs.Ythekledcoeeheaa.P.wr a (by omega) (by omega)
/-- A list of numbers of 32 bits, no longer than memory has it. -/
def LU (l : List Int) : Prop := l.length ≤ 9223372036854775807 ∧ ∀ z ∈ l, U32 z
theorem lu_of {l : List Int} (h : l.length ≤ 9223372036854775807 ∧ ∀ z_ ∈ l, (Lit.int .u32 z_).wf = true) : LU l := ⟨h.1, fun z hz => u32_of (h.2 z hz)⟩
/-! Which comes first. -/
def cmpI (a b : Int) : Int := if a < b then -1 else if a > b then 1 else 0
def listC : List Int → List Int → Int
  | [], [] => 0
  | [], _ :: _ => -1
  | _ :: _, [] => 1
  | a :: s, b :: t => if cmpI a b = 0 then listC s t else cmpI a b
def firstNZ : List Int → Int
  | [] => 0
  | a :: s => if a = 0 then firstNZ s else a
/-- What an order's answer has. -/
structure Ord {α : Type} (c : α → α → Int) : Prop where
  rng : ∀ a b, c a b = -1 ∨ c a b = 0 ∨ c a b = 1
  anti : ∀ a b, c b a = - c a b
  eq0 : ∀ a b, c a b = 0 → a = b
  trans : ∀ a b d, c a b ≤ 0 → c b d ≤ 0 → c a d ≤ 0
theorem Ord.self {α : Type} {c : α → α → Int} (h : Ord c) (a : α) : c a a = 0 := by have := h.anti a a; omega
theorem cmpI_ord : Ord cmpI where
  rng a b := by unfold cmpI; split <;> (try split) <;> omega
  anti a b := by unfold cmpI; split <;> split <;> (try split) <;> (try split) <;> omega
  eq0 a b h := by unfold cmpI at h; split at h <;> (try split at h) <;> omega
  trans a b d h1 h2 := by
    unfold cmpI at *
    split at h1 <;> (try split at h1) <;> split at h2 <;> (try split at h2) <;> split <;> (try split) <;> omega
def lex {α β : Type} (c1 : α → α → Int) (c2 : β → β → Int) (a b : α × β) : Int := if c1 a.1 b.1 = 0 then c2 a.2 b.2 else c1 a.1 b.1
theorem Ord.lex {α β : Type} {c1 : α → α → Int} {c2 : β → β → Int} (h1 : Ord c1) (h2 : Ord c2) : Ord (lex c1 c2) where
  rng a b := by unfold P.lex; split; exact h2.rng _ _; exact h1.rng _ _
  anti a b := by
    unfold P.lex
    have e := h1.anti a.1 b.1
    by_cases h : c1 a.1 b.1 = 0
    · rw [if_pos h, if_pos (by omega)]; exact h2.anti _ _
    · rw [if_neg h, if_neg (by omega)]; exact e
  eq0 a b h := by
    unfold P.lex at h
    by_cases h0 : c1 a.1 b.1 = 0
    · rw [if_pos h0] at h
      exact Prod.ext (h1.eq0 _ _ h0) (h2.eq0 _ _ h)
    · rw [if_neg h0] at h; exact absurd h h0
  trans a b d ha hb := by
    unfold P.lex at *
    by_cases e1 : c1 a.1 b.1 = 0
    · rw [if_pos e1] at ha
      rw [h1.eq0 _ _ e1]
      by_cases e2 : c1 b.1 d.1 = 0
      · rw [if_pos e2] at hb ⊢; exact h2.trans _ _ _ ha hb
      · rw [if_neg e2] at hb ⊢; exact hb
    · rw [if_neg e1] at ha
      by_cases e2 : c1 b.1 d.1 = 0
      · rw [if_pos e2] at hb
        rw [← h1.eq0 _ _ e2, if_neg e1]; exact ha
      · rw [if_neg e2] at hb
        have t := h1.trans _ _ _ ha hb
        by_cases e3 : c1 a.1 d.1 = 0
        · have := h1.eq0 _ _ e3
          have := h1.anti a.1 b.1
          rw [← h1.eq0 _ _ e3] at hb
          omega
        · rw [if_neg e3]; exact t
theorem listC_rng : ∀ a b, listC a b = -1 ∨ listC a b = 0 ∨ listC a b = 1
  | [], [] => by simp [listC]
  | [], _ :: _ => by simp [listC]
  | _ :: _, [] => by simp [listC]
  | a :: s, b :: t => by
    simp only [listC]
    split
    · exact listC_rng s t
    · exact cmpI_ord.rng a b
theorem listC_anti : ∀ a b, listC b a = - listC a b
  | [], [] => by simp [listC]
  | [], _ :: _ => by simp [listC]
  | _ :: _, [] => by simp [listC]
  | a :: s, b :: t => by
    simp only [listC]
    have e := cmpI_ord.anti a b
    by_cases h : cmpI a b = 0
    · rw [if_pos h, if_pos (by omega)]; exact listC_anti s t
    · rw [if_neg h, if_neg (by omega)]; exact e
theorem listC_eq0 : ∀ a b, listC a b = 0 → a = b
  | [], [] => fun _ => rfl
  | [], _ :: _ => by simp [listC]
  | _ :: _, [] => by simp [listC]
  | a :: s, b :: t => by
    simp only [listC]
    by_cases h : cmpI a b = 0
    · rw [if_pos h]
      intro h2
      rw [cmpI_ord.eq0 a b h, listC_eq0 s t h2]
    · rw [if_neg h]; exact fun h2 => absurd h2 h
theorem listC_trans : ∀ a b d, listC a b ≤ 0 → listC b d ≤ 0 → listC a d ≤ 0
  | [], _, [] => by simp [listC]
  | [], _, _ :: _ => by simp [listC]
  | _ :: _, [], _ => by simp [listC]
  | _ :: _, _ :: _, [] => by simp [listC]
  | a :: s, b :: t, d :: u => by
    intro h1 h2
    have k : ∀ x y : Int, ∀ p q : List Int, listC (x :: p) (y :: q) = if cmpI x y = 0 then listC p q else cmpI x y := fun _ _ _ _ => rfl
    rw [k] at h1 h2 ⊢
    by_cases e1 : cmpI a b = 0
    · rw [if_pos e1] at h1
      rw [cmpI_ord.eq0 a b e1]
      by_cases e2 : cmpI b d = 0
      · rw [if_pos e2] at h2 ⊢; exact listC_trans s t u h1 h2
      · rw [if_neg e2] at h2 ⊢; exact h2
    · rw [if_neg e1] at h1
      by_cases e2 : cmpI b d = 0
      · rw [← cmpI_ord.eq0 b d e2, if_neg e1]; exact h1
      · rw [if_neg e2] at h2
        have t := cmpI_ord.trans a b d h1 h2
        by_cases e3 : cmpI a d = 0
        · have := cmpI_ord.anti a b
          rw [← cmpI_ord.eq0 a d e3] at h2
          omega
        · rw [if_neg e3]; exact t
theorem listC_ord : Ord listC := ⟨listC_rng, listC_anti, listC_eq0, listC_trans⟩
abbrev R8 := Int × Int × List Int × List Int × Int × Int × Int × Int
def cmpR (a b : R8) : Int := firstNZ [cmpI a.1 b.1, cmpI a.2.1 b.2.1, listC a.2.2.1 b.2.2.1, listC a.2.2.2.1 b.2.2.2.1, cmpI a.2.2.2.2.1 b.2.2.2.2.1, cmpI a.2.2.2.2.2.1 b.2.2.2.2.2.1, cmpI a.2.2.2.2.2.2.1 b.2.2.2.2.2.2.1, cmpI a.2.2.2.2.2.2.2 b.2.2.2.2.2.2.2]
theorem cmpR_eq : cmpR = lex cmpI (lex cmpI (lex listC (lex listC (lex cmpI (lex cmpI (lex cmpI cmpI)))))) := by
  funext a b
  have z : ∀ x : Int, (if x = 0 then (0 : Int) else x) = x := fun x => by split <;> omega
  simp only [cmpR, firstNZ, lex, z]
theorem cmpR_ord : Ord cmpR := by
  rw [cmpR_eq]
  exact cmpI_ord.lex (cmpI_ord.lex (listC_ord.lex (listC_ord.lex (cmpI_ord.lex (cmpI_ord.lex (cmpI_ord.lex cmpI_ord))))))
theorem number_f (a b : Int) : q18z.f a b = some (cmpI a b) := by
  unfold q18z.f cmpI
  split
  · rfl
  · split <;> rfl
theorem cmpI_self (a : Int) : cmpI a a = 0 := cmpI_ord.self a
theorem drop_ge (l : List Int) (i : Nat) (h : l.length ≤ i) : l.drop i = [] := List.drop_eq_nil_of_le h
theorem list_end (a b : List Int) (i : Nat) (ha : i ≤ a.length) (hb : i ≤ b.length) (h : ¬ (i < a.length ∧ i < b.length)) : cmpI (a.length : Int) (b.length : Int) = listC (a.drop i) (b.drop i) := by
  by_cases h1 : i < a.length
  · have h2 : ¬ i < b.length := fun h2 => h ⟨h1, h2⟩
    rw [drop_ge b i (by omega), List.drop_eq_getElem_cons h1]
    simp only [listC]
    unfold cmpI
    rw [if_neg (by omega), if_pos (by omega)]
  · rw [drop_ge a i (by omega)]
    by_cases h2 : i < b.length
    · rw [List.drop_eq_getElem_cons h2]
      simp only [listC]
      unfold cmpI
      rw [if_pos (by omega)]
    · rw [drop_ge b i (by omega)]
      simp only [listC]
      unfold cmpI
      rw [if_neg (by omega), if_neg (by omega)]
theorem list_l0 (a b : List Int) (ha : LU a) (hb : LU b) : ∀ (d i : Nat), i + d = a.length → i ≤ b.length → Ev (fun k => q19z.l0 k a b (i : Int)) (listC (a.drop i) (b.drop i))
  | 0, i, hi, hib => by
    refine Ev.step (f := fun k => q19z.j1 k a b (i : Int) false) (fun k => ?_) ?_
    · simp only [q19z.l0]
      rw [if_neg (by omega)]
    · refine Ev.step (f := fun _ => some (listC (a.drop i) (b.drop i))) (fun k => ?_) (Ev.now _)
      simp only [q19z.j1, Bool.false_eq_true, if_false, number_f, Option.bind_some, list_end a b i (by omega) hib (by omega)]
  | d + 1, i, hi, hib => by
    have hia : i < a.length := by omega
    have hl := ha.1
    by_cases h : i < b.length
    · have ih := list_l0 a b ha hb d (i + 1) (by omega) (by omega)
      refine Ev.step (f := fun k => q19z.j1 k a b (i : Int) true) (fun k => ?_) ?_
      · simp only [q19z.l0]
        rw [if_pos (by omega), decide_eq_true (by omega)]
      · rw [List.drop_eq_getElem_cons hia, List.drop_eq_getElem_cons h]
        by_cases e : a[i] = b[i]
        · refine Ev.step (f := fun k => q19z.l0 k a b ((i + 1 : Nat) : Int)) (fun k => ?_) ?_
          · simp only [q19z.j1]
            rw [if_pos trivial, if_pos (by omega), if_pos (by omega), if_pos (by omega), rdI a i hia, rdI b i h, if_pos e, wrN i (by omega)]
          · simp only [listC, e, cmpI_self, if_true]; exact ih
        · have e0 : cmpI a[i] b[i] ≠ 0 := fun h0 => e (cmpI_ord.eq0 _ _ h0)
          refine Ev.step (f := fun _ => some (cmpI a[i] b[i])) (fun k => ?_) ?_
          · simp only [q19z.j1]
            rw [if_pos trivial, if_pos (by omega), if_pos (by omega), if_pos (by omega), rdI a i hia, rdI b i h, if_neg e, (ha.2 _ (List.getElem_mem hia)).wr, (hb.2 _ (List.getElem_mem h)).wr, number_f, Option.bind_some]
          · simp only [listC, e0, if_false]; exact Ev.now _
    · refine Ev.step (f := fun k => q19z.j1 k a b (i : Int) false) (fun k => ?_) ?_
      · simp only [q19z.l0]
        rw [if_pos (by omega), decide_eq_false (by omega)]
      · refine Ev.step (f := fun _ => some (listC (a.drop i) (b.drop i))) (fun k => ?_) (Ev.now _)
        simp only [q19z.j1, Bool.false_eq_true, if_false, number_f, Option.bind_some, list_end a b i (by omega) hib (by omega)]
theorem list_ev (a b : List Int) (ha : LU a) (hb : LU b) : Ev (fun k => q19z.f k a b) (listC a b) := list_l0 a b ha hb a.length 0 (by omega) (by omega)
theorem cmp_step (c0 c1 c2 c3 c4 c5 c6 c7 : Int) (i : Nat) (hi : i < 8) (r : Int) (h : Ev (fun k => q20z.l0 k ((i + 1 : Nat) : Int) c0 c1 c2 c3 c4 c5 c6 c7) r) :
    Ev (fun k => q20z.l0 k (i : Int) c0 c1 c2 c3 c4 c5 c6 c7) (if arrA85 c0 c1 c2 c3 c4 c5 c6 c7 (i : Int) = 0 then r else arrA85 c0 c1 c2 c3 c4 c5 c6 c7 (i : Int)) := by
  by_cases e : arrA85 c0 c1 c2 c3 c4 c5 c6 c7 (i : Int) = 0
  · rw [if_pos e]
    refine Ev.step (f := fun k => q20z.l0 k ((i + 1 : Nat) : Int) c0 c1 c2 c3 c4 c5 c6 c7) (fun k => ?_) h
    simp only [q20z.l0]
    rw [if_pos (by omega), if_pos (by omega), if_pos e, wrN i (by omega)]
  · rw [if_neg e]
    refine Ev.step (f := fun _ => some (arrA85 c0 c1 c2 c3 c4 c5 c6 c7 (i : Int))) (fun k => ?_) (Ev.now _)
    simp only [q20z.l0]
    rw [if_pos (by omega), if_pos (by omega), if_neg e]
theorem cmp_l0 (c0 c1 c2 c3 c4 c5 c6 c7 : Int) : Ev (fun k => q20z.l0 k 0 c0 c1 c2 c3 c4 c5 c6 c7) (firstNZ [c0, c1, c2, c3, c4, c5, c6, c7]) := by
  have h8 : Ev (fun k => q20z.l0 k ((8 : Nat) : Int) c0 c1 c2 c3 c4 c5 c6 c7) 0 := Ev.step (f := fun _ => some 0) (fun k => rfl) (Ev.now _)
  exact cmp_step c0 c1 c2 c3 c4 c5 c6 c7 0 (by omega) _ (cmp_step c0 c1 c2 c3 c4 c5 c6 c7 1 (by omega) _ (cmp_step c0 c1 c2 c3 c4 c5 c6 c7 2 (by omega) _ (cmp_step c0 c1 c2 c3 c4 c5 c6 c7 3 (by omega) _ (cmp_step c0 c1 c2 c3 c4 c5 c6 c7 4 (by omega) _ (cmp_step c0 c1 c2 c3 c4 c5 c6 c7 5 (by omega) _ (cmp_step c0 c1 c2 c3 c4 c5 c6 c7 6 (by omega) _ (cmp_step c0 c1 c2 c3 c4 c5 c6 c7 7 (by omega) _ h8)))))))
/-- What a route's cells may hold. -/
def RU (a : R8) : Prop := U32 a.1 ∧ I64 a.2.1 ∧ LU a.2.2.1 ∧ LU a.2.2.2.1 ∧ U32 a.2.2.2.2.1 ∧ U32 a.2.2.2.2.2.1 ∧ I64 a.2.2.2.2.2.2.1 ∧ U32 a.2.2.2.2.2.2.2
theorem refCmp_ev (a b : R8) (ha : RU a) (hb : RU b) : Ev (fun k => q20z.f k a.1 a.2.1 a.2.2.1 a.2.2.2.1 a.2.2.2.2.1 a.2.2.2.2.2.1 a.2.2.2.2.2.2.1 a.2.2.2.2.2.2.2 b.1 b.2.1 b.2.2.1 b.2.2.2.1 b.2.2.2.2.1 b.2.2.2.2.2.1 b.2.2.2.2.2.2.1 b.2.2.2.2.2.2.2) (cmpR a b) := by
  obtain ⟨a0, a1, a2, a3, a4, a5, a6, a7⟩ := ha
  obtain ⟨b0, b1, b2, b3, b4, b5, b6, b7⟩ := hb
  obtain ⟨K1, e1⟩ := list_ev a.2.2.1 b.2.2.1 a2 b2
  obtain ⟨K2, e2⟩ := list_ev a.2.2.2.1 b.2.2.2.1 a3 b3
  obtain ⟨K3, e3⟩ := cmp_l0 (cmpI a.1 b.1) (cmpI a.2.1 b.2.1) (listC a.2.2.1 b.2.2.1) (listC a.2.2.2.1 b.2.2.2.1) (cmpI a.2.2.2.2.1 b.2.2.2.2.1) (cmpI a.2.2.2.2.2.1 b.2.2.2.2.2.1) (cmpI a.2.2.2.2.2.2.1 b.2.2.2.2.2.2.1) (cmpI a.2.2.2.2.2.2.2 b.2.2.2.2.2.2.2)
  refine ⟨K1 + K2 + K3, fun k hk => ?_⟩
  simp only [q20z.f, number_f, a0.wr, b0.wr, a4.wr, b4.wr, a5.wr, b5.wr, a7.wr, b7.wr, e1 k (by omega), e2 k (by omega), Option.bind_some]
  exact e3 k (by omega)
end Go.Proofs.Ythekledcoeeheaa.P
namespace Go.Proofs.Ythekledcoeeheaa.P
open Go.Sort
/-! A sorted list with what is alike left out. -/
def cmpU (l : List Int) : List Int := Go.Lib.compactUpTo l.toArray l.length
theorem getB (l : List Int) (i : Nat) (h : i < l.length) : l.toArray[i]! = l[i] := by
  rw [getElem!_pos l.toArray i (by simpa using h)]
  simp
theorem cmpU_lt (l : List Int) (h : l.Pairwise (fun a b : Int => a ≤ b)) : (cmpU l).Pairwise (fun a b : Int => a < b) := by
  unfold cmpU Go.Lib.compactUpTo
  rw [List.pairwise_map, List.pairwise_filter, List.pairwise_iff_getElem]
  intro i j hi hj hij
  simp only [List.getElem_range]
  intro ki kj
  rw [List.length_range] at hi hj
  rw [List.pairwise_iff_getElem] at h
  simp only [Go.Lib.keeps, decide_eq_true_eq] at kj
  rcases kj with kj | kj
  · omega
  · have e : j - 1 + 1 = j := by omega
    rw [getB l i hi, getB l j hj]
    rw [getB l j hj, getB l (j - 1) (by omega)] at kj
    have h1 := h (j - 1) j (by omega) hj (by omega)
    rcases Nat.lt_or_ge i (j - 1) with h2 | h2
    · have h3 := h i (j - 1) hi (by omega) h2
      omega
    · have e2 : i = j - 1 := by omega
      subst e2
      omega
theorem cmpU_sub (l : List Int) (x : Int) (hx : x ∈ cmpU l) : x ∈ l := by
  unfold cmpU Go.Lib.compactUpTo at hx
  rw [List.mem_map] at hx
  obtain ⟨i, hi, rfl⟩ := hx
  have hi' := List.mem_range.1 (List.mem_filter.1 hi).1
  rw [getB l i hi']
  exact List.getElem_mem hi'
theorem cmpU_sup (l : List Int) : ∀ i (h : i < l.length), l[i] ∈ cmpU l := by
  intro i
  induction i with
  | zero =>
    intro h
    unfold cmpU Go.Lib.compactUpTo
    rw [List.mem_map]
    exact ⟨0, List.mem_filter.2 ⟨List.mem_range.2 h, by simp [Go.Lib.keeps]⟩, getB l 0 h⟩
  | succ i ih =>
    intro h
    by_cases e : l[i + 1] = l[i]
    · rw [e]; exact ih (by omega)
    · unfold cmpU Go.Lib.compactUpTo
      rw [List.mem_map]
      refine ⟨i + 1, List.mem_filter.2 ⟨List.mem_range.2 h, ?_⟩, getB l (i + 1) h⟩
      simp only [Go.Lib.keeps, decide_eq_true_eq]
      refine .inr ?_
      rw [getB l (i + 1) h, Nat.add_sub_cancel, getB l i (by omega)]
      exact e
theorem cmpU_mem (l : List Int) (x : Int) : x ∈ cmpU l ↔ x ∈ l := by
  constructor
  · exact cmpU_sub l x
  · intro h
    obtain ⟨i, hi, rfl⟩ := List.getElem_of_mem h
    exact cmpU_sup l i hi
theorem cmpU_le (l : List Int) : (cmpU l).length ≤ l.length := by
  unfold cmpU Go.Lib.compactUpTo
  rw [List.length_map]
  exact Nat.le_trans (List.length_filter_le _ _) (by simp)
theorem lt_unique : ∀ (l r : List Int), l.Pairwise (fun a b : Int => a < b) → r.Pairwise (fun a b : Int => a < b) → (∀ x, x ∈ l ↔ x ∈ r) → l = r
  | [], [], _, _, _ => rfl
  | [], y :: t, _, _, h => by have := (h y).2 (List.mem_cons_self ..); simp at this
  | x :: s, [], _, _, h => by have := (h x).1 (List.mem_cons_self ..); simp at this
  | x :: s, y :: t, h1, h2, h => by
    rw [List.pairwise_cons] at h1 h2
    have hxy : x = y := by
      rcases List.mem_cons.1 ((h x).1 (List.mem_cons_self ..)) with e | e
      · exact e
      · rcases List.mem_cons.1 ((h y).2 (List.mem_cons_self ..)) with e2 | e2
        · exact e2.symm
        · have a1 := h2.1 x e
          have a2 := h1.1 y e2
          omega
    subst hxy
    rw [lt_unique s t h1.2 h2.2]
    intro z
    constructor
    · intro hz
      rcases List.mem_cons.1 ((h z).1 (List.mem_cons_of_mem _ hz)) with e | e
      · have := h1.1 z hz; omega
      · exact e
    · intro hz
      rcases List.mem_cons.1 ((h z).2 (List.mem_cons_of_mem _ hz)) with e | e
      · have := h2.1 z hz; omega
      · exact e
/-- A list's numbers, each once, rising. -/
def setU (l : List Int) : List Int := cmpU (sortU l)
theorem setU_lt (l : List Int) : (setU l).Pairwise (fun a b : Int => a < b) := cmpU_lt _ (sortU_pair l)
theorem setU_mem (l : List Int) (x : Int) : x ∈ setU l ↔ x ∈ l := (cmpU_mem _ x).trans (sortU_mem l x)
theorem setU_le (l : List Int) : (setU l).length ≤ l.length := Nat.le_trans (cmpU_le _) (Nat.le_of_eq (sortU_len l))
end Go.Proofs.Ythekledcoeeheaa.P
namespace Go.Proofs.Ythekledcoeeheaa.P
open Go.RowKit Go.Proofs.YthekledcoeeheaaW.PrintWords Go.Proofs.YthekledcoeeheaaW.PrintMore
/-! A prefix with the bits behind its length 0. -/
def lenM (n : Int) : Int := mx 0 (mn n 32)
theorem lenM_rng (n : Int) : 0 ≤ lenM n ∧ lenM n ≤ 32 := by unfold lenM mx mn; split <;> split <;> (try split) <;> omega
def maskA (a n : Int) : Int := (a / 2 ^ (32 - lenM n).toNat) * 2 ^ (32 - lenM n).toNat
theorem pow_le (e : Nat) (h : e ≤ 32) : (1 : Int) ≤ 2 ^ e ∧ (2 : Int) ^ e ≤ 4294967296 := by
  have h1 : (2 : Nat) ^ e ≤ 2 ^ 32 := Nat.pow_le_pow_right (by omega) h
  have h2 : 0 < (2 : Nat) ^ e := Nat.pow_pos (by omega)
  have e1 : (2 : Int) ^ e = ((2 ^ e : Nat) : Int) := by simp
  rw [e1]
  omega
theorem maskA_rng (a n : Int) (ha : U32 a) : 0 ≤ maskA a n ∧ maskA a n ≤ a := by
  have hp := (pow_le (32 - lenM n).toNat (by have := lenM_rng n; omega)).1
  unfold maskA
  generalize (2 : Int) ^ (32 - lenM n).toNat = q at hp
  have h1 : 0 ≤ a / q := Int.ediv_nonneg ha.1 (by omega)
  exact ⟨Int.mul_nonneg h1 (by omega), Int.ediv_mul_le a (by omega)⟩
theorem u64w (a : Int) (h0 : 0 ≤ a) (h1 : a ≤ 18446744073709551615) : IntKind.u64.wrap a = a := by
  simp [IntKind.wrap, IntKind.bits, IntKind.signed]
  omega
theorem routeMask_f (a n : Int) (ha : U32 a) : q1z.f a n = some (maskA a n, lenM n) := by
  obtain ⟨h0, h1⟩ := maskA_rng a n ha
  obtain ⟨a0, a1⟩ := ha
  unfold q1z.f
  rw [u64w a a0 (by omega)]
  show some (IntKind.u64.wrap (maskA a n) % 4294967296, lenM n) = _
  rw [u64w _ h0 (by omega), Int.emod_eq_of_lt h0 (by omega)]
theorem refMask_l0 (a n : Int) (ha : U32 a) : ∀ (d : Nat) (i : Int), i + d = 32 → lenM n ≤ i → Ev (fun k => q21z.l0 k (lenM n) (2 ^ (i - lenM n).toNat) i a n) (maskA a n, lenM n)
  | 0, i, hi, hn => by
    have hl := lenM_rng n
    have hi' : i = 32 := by omega
    subst hi'
    have hp := pow_le (32 - lenM n).toNat (by omega)
    obtain ⟨h0, h1⟩ := maskA_rng a n ha
    obtain ⟨a0, a1⟩ := ha
    refine Ev.step (f := fun _ => some (maskA a n, lenM n)) (fun k => ?_) (Ev.now _)
    simp only [q21z.l0]
    rw [if_neg (by omega), if_neg (by omega), u64w a a0 (by omega), Int.tdiv_eq_ediv_of_nonneg a0]
    have hq : 0 ≤ a / 2 ^ (32 - lenM n).toNat := Int.ediv_nonneg a0 (by omega)
    have hq2 : a / 2 ^ (32 - lenM n).toNat ≤ a := Int.ediv_le_self _ a0
    rw [u64w _ hq (by omega)]
    show some (IntKind.u64.wrap (maskA a n) % 4294967296, lenM n) = _
    rw [u64w _ h0 (by omega), Int.emod_eq_of_lt h0 (by omega)]
  | d + 1, i, hi, hn => by
    have hl := lenM_rng n
    have ih := refMask_l0 a n ha d (i + 1) (by omega) (by omega)
    have hp := pow_le (i - lenM n).toNat (by omega)
    refine Ev.step (f := fun k => q21z.l0 k (lenM n) (2 ^ (i + 1 - lenM n).toNat) (i + 1) a n) (fun k => ?_) ih
    simp only [q21z.l0]
    rw [if_pos (by omega), u64w _ (by omega) (by omega), wr _ (by omega) (by omega)]
    have e : (i + 1 - lenM n).toNat = (i - lenM n).toNat + 1 := by omega
    rw [e, Int.pow_succ, Int.mul_comm 2]
theorem refMask_ev (a n : Int) (ha : U32 a) : Ev (fun k => q21z.f k a n) (maskA a n, lenM n) := by
  have hl := lenM_rng n
  have := refMask_l0 a n ha (32 - lenM n).toNat (lenM n) (by omega) (Int.le_refl _)
  rw [Int.sub_self] at this
  exact this
/-! Does a list rise? -/
def canonR (a : R8) : R8 := (maskA a.1 a.2.1, lenM a.2.1, a.2.2.1, setU a.2.2.2.1, a.2.2.2.2.1, a.2.2.2.2.2.1, a.2.2.2.2.2.2.1, a.2.2.2.2.2.2.2)
theorem RU.canon {a : R8} (h : RU a) : RU (canonR a) := by
  obtain ⟨h0, h1, h2, h3, h4, h5, h6, h7⟩ := h
  have hm := maskA_rng a.1 a.2.1 h0
  have hl := lenM_rng a.2.1
  refine ⟨⟨hm.1, Int.le_trans hm.2 h0.2⟩, ⟨?_, ?_⟩, h2, ⟨Nat.le_trans (setU_le _) h3.1, fun z hz => h3.2 z ((setU_mem _ z).1 hz)⟩, h4, h5, h6, h7⟩
  · show -9223372036854775808 ≤ lenM a.2.1
    omega
  · show lenM a.2.1 ≤ 9223372036854775807
    omega
theorem canon_f (k : Nat) (a : R8) (ha : RU a) (h1 : a.2.2.1.length ≤ 1000) (h2 : a.2.2.2.1.length ≤ 1000) : q6z.f k a.1 a.2.1 a.2.2.1 a.2.2.2.1 a.2.2.2.2.1 a.2.2.2.2.2.1 a.2.2.2.2.2.2.1 a.2.2.2.2.2.2.2 = some (canonR a) := by
  have e1 : q5z.f a.1 a.2.1 a.2.2.1 a.2.2.2.1 a.2.2.2.2.1 a.2.2.2.2.2.1 a.2.2.2.2.2.2.1 a.2.2.2.2.2.2.2 = some a := by
    unfold q5z.f
    rw [Option.bind_some, if_pos (by simp; omega), Option.bind_some, if_pos (by simp; omega)]
    simp
  have e2 : Sort_u32.f k a.2.2.2.1 = some (sortU a.2.2.2.1) := if_pos (by omega)
  have e3 : Compact_u32.f (sortU a.2.2.2.1) = some (setU a.2.2.2.1) := if_pos (by rw [sortU_len]; omega)
  unfold q6z.f
  rw [e1, Option.bind_some, routeMask_f _ _ ha.1, Option.bind_some, e2, Option.bind_some, e3, Option.bind_some]
  rfl
theorem great_f (a : R8) : q16z.f a.1 a.2.1 a.2.2.1 a.2.2.2.1 a.2.2.2.2.1 a.2.2.2.2.2.1 a.2.2.2.2.2.2.1 a.2.2.2.2.2.2.2 = some (decide (1000 < a.2.2.1.length ∨ 1000 < a.2.2.2.1.length)) := by
  unfold q16z.f
  by_cases h : 1000 < a.2.2.1.length
  · rw [if_pos (by omega), decide_eq_true (.inl h)]
  · rw [if_neg (by omega)]
    congr 1
    rw [decide_eq_decide]
    omega
theorem alive_ev : Ev (fun k => q15z.f k) true := by
  refine ⟨60, fun k hk => ?_⟩
  obtain ⟨m, rfl⟩ : ∃ m, k = m + 60 := ⟨k - 60, by omega⟩
  kernel_rfl
end Go.Proofs.Ythekledcoeeheaa.P
namespace Go.Proofs.Ythekledcoeeheaa.P
open Go.RowKit
/-! A list of numbers that rise, with one more; with many more. -/
def Rising (l : List Int) : Prop := l.Pairwise (· < ·)
def ins (n : Int) (l : List Int) : List Int :=
  match l.dropWhile (fun a => decide (a < n)) with
  | [] => l ++ [n]
  | a :: r => if a = n then l else l.takeWhile (fun a => decide (a < n)) ++ n :: (a :: r)
theorem ins_split (n : Int) : ∀ l : List Int, l = l.takeWhile (fun a => decide (a < n)) ++ l.dropWhile (fun a => decide (a < n)) := fun l => List.takeWhile_append_dropWhile.symm
theorem tw_lt (n : Int) (l : List Int) : ∀ x ∈ l.takeWhile (fun a => decide (a < n)), x < n := by
  induction l with
  | nil => intro x hx; simp at hx
  | cons a r ih =>
    intro x hx
    rw [List.takeWhile_cons] at hx
    split at hx
    · rename_i h
      rcases List.mem_cons.1 hx with rfl | hx
      · simpa using h
      · exact ih x hx
    · simp at hx
theorem dw_head (n : Int) (l : List Int) (a : Int) (r : List Int) (h : l.dropWhile (fun a => decide (a < n)) = a :: r) : n ≤ a := by
  induction l with
  | nil => simp at h
  | cons b t ih =>
    rw [List.dropWhile_cons] at h
    split at h
    · exact ih h
    · rename_i hb
      obtain ⟨rfl, rfl⟩ := List.cons.inj h
      have : ¬ b < n := by simpa using hb
      omega
theorem mem_ins (n : Int) (l : List Int) (x : Int) : x ∈ ins n l ↔ x = n ∨ x ∈ l := by
  unfold ins
  split
  · simp [or_comm]
  · rename_i a r h
    have hs := ins_split n l
    rw [h] at hs
    split
    · rename_i ha
      subst ha
      constructor
      · exact .inr
      · rintro (rfl | hx)
        · rw [hs]; simp
        · exact hx
    · generalize l.takeWhile (fun a => decide (a < n)) = p at hs
      subst hs
      simp only [List.mem_append, List.mem_cons]
      constructor
      · rintro (h1 | h1 | h1 | h1) <;> simp [h1]
      · rintro (h1 | h1 | h1 | h1) <;> simp [h1]
theorem rising_ins (n : Int) (l : List Int) (hl : Rising l) : Rising (ins n l) := by
  unfold ins
  have hs := ins_split n l
  have ht := tw_lt n l
  split
  · rename_i h
    rw [h, List.append_nil] at hs
    unfold Rising
    rw [List.pairwise_append]
    refine ⟨hl, List.pairwise_singleton _ _, fun a ha b hb => ?_⟩
    rw [List.mem_singleton.1 hb]
    exact ht a (hs ▸ ha)
  · rename_i a r h
    have ha := dw_head n l a r h
    rw [h] at hs
    split
    · exact hl
    · rename_i hne
      generalize l.takeWhile (fun a => decide (a < n)) = p at hs ht
      subst hs
      unfold Rising at hl ⊢
      rw [List.pairwise_append] at hl ⊢
      obtain ⟨h1, h2, h3⟩ := hl
      refine ⟨h1, ?_, fun x hx y hy => ?_⟩
      · rw [List.pairwise_cons]
        refine ⟨fun y hy => ?_, h2⟩
        rw [List.pairwise_cons] at h2
        rcases List.mem_cons.1 hy with rfl | hy
        · omega
        · have := h2.1 y hy; omega
      · rcases List.mem_cons.1 hy with rfl | hy
        · exact ht x hx
        · exact h3 x hx y hy
theorem length_ins (n : Int) (l : List Int) : (ins n l).length ≤ l.length + 1 := by
  unfold ins
  split
  · simp
  · rename_i a r h
    have hs := congrArg List.length (ins_split n l)
    rw [h] at hs
    split
    · omega
    · simp only [List.length_append, List.length_cons] at hs ⊢
      omega

def insAll : List Int → List Int → List Int
  | out, [] => out
  | out, c :: cs => insAll (ins c out) cs
theorem insAll_spec : ∀ (cs out : List Int), Rising out → Rising (insAll out cs) ∧ (∀ x, x ∈ insAll out cs ↔ x ∈ out ∨ x ∈ cs) ∧ (insAll out cs).length ≤ out.length + cs.length
  | [], out, h => ⟨h, fun x => by simp [insAll], by simp [insAll]⟩
  | c :: cs, out, h => by
    obtain ⟨q1, q2, q3⟩ := insAll_spec cs (ins c out) (rising_ins c out h)
    have hl := length_ins c out
    refine ⟨q1, fun x => ?_, by simp only [insAll, List.length_cons]; omega⟩
    simp only [insAll]
    rw [q2, mem_ins, List.mem_cons]
    constructor
    · rintro ((h | h) | h)
      · exact .inr (.inl h)
      · exact .inl h
      · exact .inr (.inr h)
    · rintro (h | h | h)
      · exact .inl (.inr h)
      · exact .inl (.inl h)
      · exact .inr h
theorem insAll_nil (cs : List Int) : insAll [] cs = setU cs := by
  obtain ⟨q1, q2, _⟩ := insAll_spec cs [] List.Pairwise.nil
  refine lt_unique _ _ q1 (setU_lt _) (fun x => ?_)
  rw [q2, setU_mem]
  simp
end Go.Proofs.Ythekledcoeeheaa.P
namespace Go.Proofs.Ythekledcoeeheaa.P
open Go.RowKit Go.Proofs.YthekledcoeeheaaW.PrintWords
/-- The same without a step. -/
theorem Ev.with {α β : Type} {g : Nat → Option α} {F G : Nat → Option β} {a : α} {r : β} (h : Ev g a) (hG : Ev G r) (hF : ∀ k, g k = some a → F k = G k) : Ev F r := by
  obtain ⟨K, h⟩ := h
  obtain ⟨K', hG⟩ := hG
  exact ⟨max K K', fun n hn => by rw [hF n (h n (by omega))]; exact hG n (by omega)⟩
theorem Ev.with2 {α α' β : Type} {g : Nat → Option α} {g' : Nat → Option α'} {F G : Nat → Option β} {a : α} {a' : α'} {r : β} (h : Ev g a) (h' : Ev g' a') (hG : Ev G r) (hF : ∀ k, g k = some a → g' k = some a' → F k = G k) : Ev F r := by
  obtain ⟨K, h⟩ := h
  obtain ⟨K2, h'⟩ := h'
  obtain ⟨K', hG⟩ := hG
  exact ⟨max (max K K2) K', fun n hn => by rw [hF n (h n (by omega)) (h' n (by omega))]; exact hG n (by omega)⟩
/-- The last step. -/
theorem Ev.last {β : Type} {F : Nat → Option β} {r : β} (hF : ∀ k, F (k + 1) = some r) : Ev F r := ⟨1, fun n hn => by
  obtain ⟨m, rfl⟩ : ∃ m, n = m + 1 := ⟨n - 1, by omega⟩
  exact hF m⟩
/-- As a pair, of two. -/
theorem Ev.and {α α' : Type} {g : Nat → Option α} {g' : Nat → Option α'} {a : α} {a' : α'} (h : Ev g a) (h' : Ev g' a') : ∃ K, ∀ k, K ≤ k → g k = some a ∧ g' k = some a' := by
  obtain ⟨K, h⟩ := h
  obtain ⟨K2, h'⟩ := h'
  exact ⟨max K K2, fun k hk => ⟨h k (by omega), h' k (by omega)⟩⟩
end Go.Proofs.Ythekledcoeeheaa.P
namespace Go.Proofs.Ythekledcoeeheaa.P
open Go.RowKit Go.Proofs.YthekledcoeeheaaW.PrintWords Go.Proofs.YthekledcoeeheaaW.PrintMore
/-! The document's Sorted: each once, rising. -/
theorem sorted_l2 (n : Int) (xs : List Int) (xn xi : Int) (R : List Int) (p : List Int) : ∀ (q s : List Int) (z : Int), p.length + q.length + s.length ≤ 1000000000 →
    Ev (fun k => q22z.l0 k (p ++ n :: (q ++ s)) xs xn (wrap64 (xi + 1))) R →
    Ev (fun k => q22z.l2 k (p ++ q ++ [z] ++ s) n (p.length : Int) ((p.length + q.length : Nat) : Int) xs xn xi) R := by
  intro q
  induction h : q.length generalizing q with
  | zero =>
    intro s z hl hR
    have hq : q = [] := List.length_eq_zero_iff.1 h
    subst hq
    refine Ev.step (fun k => ?_) hR
    simp only [q22z.l2]
    rw [if_neg (by omega), if_pos (by omega), if_pos (by simp; omega), Int.toNat_natCast]
    simp
  | succ m ih =>
    intro s z hl hR
    rcases List.eq_nil_or_concat q with rfl | ⟨q', y, rfl⟩
    · simp at h
    · rw [List.concat_eq_append] at *
      have hq' : q'.length = m := by simpa using h
      have e1 := ih q' hq' (y :: s) y (by simp only [List.length_cons]; omega) (by
        have : p ++ n :: (q' ++ y :: s) = p ++ n :: (q' ++ [y] ++ s) := by simp
        rw [this]; exact hR)
      refine Ev.step (fun k => ?_) e1
      simp only [q22z.l2]
      have hw : wrap64 (((p.length + (m + 1) : Nat) : Int) - 1) = ((p.length + m : Nat) : Int) := by rw [wr _ (by omega) (by omega)]; omega
      have hr : rd (p ++ (q' ++ [y]) ++ [z] ++ s) ((p.length + m : Nat) : Int) = y := by
        rw [rdI _ _ (by simp; omega)]
        simp [List.getElem_append, hq']
      rw [if_pos (by omega), hw, if_pos (by omega), if_pos (by simp; omega), if_pos (by omega), if_pos (by simp; omega), hr, Int.toNat_natCast]
      congr 1
      have : p ++ (q' ++ [y]) ++ [z] ++ s = (p ++ q' ++ [y]) ++ (z :: s) := by simp
      rw [this, List.set_append_right _ _ (by simp; omega)]
      have : p.length + (m + 1) - (p ++ q' ++ [y]).length = 0 := by simp; omega
      rw [this]
      simp
theorem sorted_l1 (l : List Int) (n : Int) (hl : l.length ≤ 900000000) (xs : List Int) (xn xi : Int) (R : List Int) : ∀ (q p : List Int), l = p ++ q → (∀ a ∈ p, a < n) →
    Ev (fun k => q22z.j2 k l n (((p ++ q.takeWhile (fun a => decide (a < n))).length : Nat) : Int) xs xn xi) R → Ev (fun k => q22z.l1 k l n (p.length : Int) xs xn xi) R
  | [], p, hp, _, h => by
    rw [List.append_nil] at hp
    subst hp
    refine Ev.step (fun k => ?_) h
    simp only [q22z.l1]
    rw [if_neg (by omega), List.takeWhile_nil, List.append_nil]
  | a :: q, p, hp, hlt, h => by
    have hpl : p.length < l.length := by rw [hp]; simp
    have hr : rd l (p.length : Int) = a := by
      rw [rdI l _ hpl]
      simp [hp]
    by_cases ha : a < n
    · rw [List.takeWhile_cons_of_pos (by simpa using ha)] at h
      refine Ev.step (fun k => ?_) (sorted_l1 l n hl xs xn xi R q (p ++ [a]) (by rw [hp]; simp) (fun x hx => by
        rcases List.mem_append.1 hx with hx | hx
        · exact hlt x hx
        · rw [List.mem_singleton.1 hx]; exact ha) (by rw [List.append_assoc, List.singleton_append]; exact h))
      simp only [q22z.l1]
      rw [if_pos (by omega), if_pos (by omega), hr, if_pos ha, wrN _ (by omega), List.length_append, List.length_singleton]
    · rw [List.takeWhile_cons_of_neg (by simpa using ha), List.append_nil] at h
      refine Ev.step (fun k => ?_) h
      simp only [q22z.l1]
      rw [if_pos (by omega), if_pos (by omega), hr, if_neg ha]
theorem sorted_step (l : List Int) (n : Int) (hl : l.length ≤ 900000000) (xs : List Int) (xn xi : Int) (R : List Int) (hR : Ev (fun k => q22z.l0 k (ins n l) xs xn (wrap64 (xi + 1))) R) : Ev (fun k => q22z.l1 k l n 0 xs xn xi) R := by
  have h0 : Ev (fun k => q22z.l1 k l n (([] : List Int).length : Int) xs xn xi) R := by
    refine sorted_l1 l n hl xs xn xi R l [] rfl (fun a h => (List.not_mem_nil h).elim) ?_
    rw [List.nil_append]
    have hs := ins_split n l
    unfold ins at hR
    cases hd : l.dropWhile (fun a => decide (a < n)) with
    | nil =>
      rw [hd] at hR
      rw [hd, List.append_nil] at hs
      simp only at hR
      rw [← hs]
      refine Ev.step (f := fun k => q22z.j3 k l n (l.length : Int) xs xn xi false) (fun k => ?_) (Ev.step (f := fun k => q22z.l2 k (l ++ [0]) n (l.length : Int) (l.length : Int) xs xn xi) (fun k => ?_) ?_)
      · simp only [q22z.j2]
        rw [if_neg (by omega)]
      · simp only [q22z.j3]
        rw [if_neg (by decide), if_pos (by omega), Option.bind_some, wr _ (by simp only [List.length_append, List.length_singleton]; omega) (by simp only [List.length_append, List.length_singleton]; omega)]
        congr 1
        simp
      · have := sorted_l2 n xs xn xi R l [] [] 0 (by simp; omega) (by simpa using hR)
        simpa using this
    | cons a r =>
      rw [hd] at hs hR
      have hal : (l.takeWhile (fun a => decide (a < n))).length < l.length := by
        have := congrArg List.length hs
        simp only [List.length_append, List.length_cons] at this
        omega
      generalize hp : l.takeWhile (fun a => decide (a < n)) = p at hs hal hR ⊢
      have hr : rd l (p.length : Int) = a := by
        rw [rdI l _ hal]
        simp [hs]
      simp only at hR
      by_cases ha : a = n
      · rw [if_pos ha] at hR
        refine Ev.step (f := fun k => q22z.j3 k l n (p.length : Int) xs xn xi true) (fun k => ?_) (Ev.step (fun k => ?_) hR)
        · simp only [q22z.j2]
          rw [if_pos (by omega), if_pos (by omega), hr, ha]
          simp
        · simp only [q22z.j3]
          rw [if_pos trivial]
      · rw [if_neg ha] at hR
        refine Ev.step (f := fun k => q22z.j3 k l n (p.length : Int) xs xn xi false) (fun k => ?_) (Ev.step (f := fun k => q22z.l2 k (l ++ [0]) n (p.length : Int) (l.length : Int) xs xn xi) (fun k => ?_) ?_)
        · simp only [q22z.j2]
          rw [if_pos (by omega), if_pos (by omega), hr, show (a == n) = false from by simpa using ha]
        · simp only [q22z.j3]
          rw [if_neg (by decide), if_pos (by omega), Option.bind_some, wr _ (by simp only [List.length_append, List.length_singleton]; omega) (by simp only [List.length_append, List.length_singleton]; omega)]
          congr 1
          simp
        · have h1 := sorted_l2 n xs xn xi R p (a :: r) [] 0 (by have := congrArg List.length hs; simp only [List.length_append, List.length_cons, List.length_nil] at this ⊢; omega) (by rw [List.append_nil]; exact hR)
          have e1 : p ++ a :: r ++ [0] ++ [] = l ++ [0] := by rw [List.append_nil, ← hs]
          have e2 : p.length + (a :: r).length = l.length := by rw [← List.length_append, ← hs]
          rw [e1, e2] at h1
          exact h1
  exact h0
theorem sorted_l0 (xs : List Int) (hx : xs.length ≤ 900000000) : ∀ (d i : Nat) (out : List Int), i + d = xs.length → out.length + d ≤ 900000000 → Ev (fun k => q22z.l0 k out xs (xs.length : Int) (i : Int)) (insAll out (xs.drop i))
  | 0, i, out, hi, ho => by
    rw [List.drop_eq_nil_of_le (by omega)]
    refine Ev.last (fun k => ?_)
    simp only [q22z.l0]
    rw [if_neg (by omega)]
    rfl
  | d + 1, i, out, hi, ho => by
    have hil : i < xs.length := by omega
    have hln := length_ins xs[i] out
    rw [List.drop_eq_getElem_cons hil]
    simp only [insAll]
    have ih := sorted_l0 xs hx d (i + 1) (ins xs[i] out) (by omega) (by omega)
    refine Ev.step (fun k => ?_) (sorted_step out xs[i] (by omega) xs (xs.length : Int) (i : Int) _ (by rw [wrN i (by omega)]; exact ih))
    simp only [q22z.l0]
    rw [if_pos (by omega), if_pos (by omega), if_pos (by omega), rdI xs i hil]
theorem sorted_ev (xs : List Int) (hx : xs.length ≤ 400000000) : Ev (fun k => q22z.f k xs) (setU xs) := by
  have h := sorted_l0 xs (by omega) xs.length 0 [] (by omega) (by simp; omega)
  rw [List.drop_zero, insAll_nil] at h
  exact Ev.congr (fun k => rfl) h
/-! A route in its one form is the document's, and the route stays. -/
theorem refCopyC_f (r : R8) (h1 : r.2.2.1.length ≤ 1000) (h2 : r.2.2.2.1.length ≤ 1000) : q17z.f r.1 r.2.1 r.2.2.1 r.2.2.2.1 r.2.2.2.2.1 r.2.2.2.2.2.1 r.2.2.2.2.2.2.1 r.2.2.2.2.2.2.2 = some r := by
  unfold q17z.f
  rw [Option.bind_some, if_pos (by simp only [List.length_nil]; omega), Option.bind_some, if_pos (by simp only [List.length_nil]; omega), List.nil_append, List.nil_append]
theorem copyC_f (r : R8) (h1 : r.2.2.1.length ≤ 1000) (h2 : r.2.2.2.1.length ≤ 1000) : q5z.f r.1 r.2.1 r.2.2.1 r.2.2.2.1 r.2.2.2.2.1 r.2.2.2.2.2.1 r.2.2.2.2.2.2.1 r.2.2.2.2.2.2.2 = some r := by
  unfold q5z.f
  rw [Option.bind_some, if_pos (by simp only [List.length_nil]; omega), Option.bind_some, if_pos (by simp only [List.length_nil]; omega), List.nil_append, List.nil_append]
theorem refCanon_ev (a : R8) (ha : RU a) (h1 : a.2.2.1.length ≤ 1000) (h2 : a.2.2.2.1.length ≤ 1000) : Ev (fun k => q23z.f k a.1 a.2.1 a.2.2.1 a.2.2.2.1 a.2.2.2.2.1 a.2.2.2.2.2.1 a.2.2.2.2.2.2.1 a.2.2.2.2.2.2.2) (canonR a) := by
  have e1 := refCopyC_f a h1 h2
  refine Ev.with2 (refMask_ev a.1 a.2.1 ha.1) (sorted_ev a.2.2.2.1 (by omega)) (Ev.now _) (fun k q1 q2 => ?_)
  unfold q23z.f
  rw [e1, Option.bind_some, q1, Option.bind_some, q2, Option.bind_some]
  rfl
theorem pure_RouteCanon (a0_0_0 : Int) (a0_0_1 : Int) (l0_1 : List Int) (l0_2 : List Int) (a0_3 : Int) (a0_4 : Int) (a0_5 : Int) (a0_6 : Int) (h0 : (Lit.int .u32 a0_0_0).wf = true) (h1 : (Lit.int .i64 a0_0_1).wf = true) (h2 : (l0_1.length ≤ 9223372036854775807 ∧ ∀ z_ ∈ l0_1, (Lit.int .u32 z_).wf = true)) (h3 : (l0_2.length ≤ 9223372036854775807 ∧ ∀ z_ ∈ l0_2, (Lit.int .u32 z_).wf = true)) (h4 : (Lit.int .u32 a0_3).wf = true) (h5 : (Lit.int .u32 a0_4).wf = true) (h6 : (Lit.int .i64 a0_5).wf = true) (h7 : (Lit.int .u32 a0_6).wf = true) : ∃ k, q24z.f k a0_0_0 a0_0_1 l0_1 l0_2 a0_3 a0_4 a0_5 a0_6 = some true := by
  obtain ⟨r, hr⟩ : ∃ r : R8, r = (a0_0_0, a0_0_1, l0_1, l0_2, a0_3, a0_4, a0_5, a0_6) := ⟨_, rfl⟩
  have ra : RU r := by rw [hr]; exact ⟨u32_of h0, i64_of h1, lu_of h2, lu_of h3, u32_of h4, u32_of h5, i64_of h6, u32_of h7⟩
  obtain ⟨K0, e0⟩ := alive_ev
  replace e0 : ∀ k, K0 ≤ k → q15z.f k = some true := e0
  have main : ∃ k, q24z.f k r.1 r.2.1 r.2.2.1 r.2.2.2.1 r.2.2.2.2.1 r.2.2.2.2.2.1 r.2.2.2.2.2.2.1 r.2.2.2.2.2.2.2 = some true := by
    by_cases hg : 1000 < r.2.2.1.length ∨ 1000 < r.2.2.2.1.length
    · refine ⟨K0, ?_⟩
      unfold q24z.f
      rw [e0 K0 (Nat.le_refl _), Option.bind_some, if_pos rfl, great_f, Option.bind_some, decide_eq_true hg, if_pos rfl]
    · have hl1 : r.2.2.1.length ≤ 1000 := by omega
      have hl2 : r.2.2.2.1.length ≤ 1000 := by omega
      have rc := ra.canon
      have e1 := refCmp_ev (canonR r) (canonR r) rc rc
      rw [show cmpR (canonR r) (canonR r) = 0 from cmpR_ord.self _] at e1
      have e2 := refCmp_ev r r ra ra
      rw [show cmpR r r = 0 from cmpR_ord.self _] at e2
      obtain ⟨K1, e1⟩ := e1
      obtain ⟨K2, e2⟩ := e2
      obtain ⟨K3, e3⟩ := refCanon_ev r ra hl1 hl2
      refine ⟨K0 + K1 + K2 + K3, ?_⟩
      have d0 := e0 (K0 + K1 + K2 + K3) (by omega)
      have d1 := e1 (K0 + K1 + K2 + K3) (by omega)
      have d2 := e2 (K0 + K1 + K2 + K3) (by omega)
      have d3 := e3 (K0 + K1 + K2 + K3) (by omega)
      generalize K0 + K1 + K2 + K3 = k at d0 d1 d2 d3 ⊢
      simp only [] at d1 d2 d3
      have f1 := canon_f k r ra hl1 hl2
      have f2 := refCopyC_f r hl1 hl2
      have f3 := copyC_f r hl1 hl2
      generalize canonR r = c at *
      unfold q24z.f
      rw [d0, Option.bind_some, if_pos rfl, great_f, Option.bind_some, decide_eq_false hg, if_neg (by simp), f2, Option.bind_some, f1, Option.bind_some, f3, Option.bind_some, d3, Option.bind_some, d1, Option.bind_some, if_pos rfl, d2, Option.bind_some, if_pos rfl]
      rfl
  rw [hr] at main
  exact main
end Go.Proofs.Ythekledcoeeheaa.P
namespace Go.Proofs.Ythekledcoeeheaa.routeCanon
open Go.ChangeShapes Go.WideShapes Go.ChangeAt Go.RowKit
open Go.ChangeMaps (open_string shut_string)
open Go.Proofs.YthekledcoeeheaaW.PrintWords Go.Proofs.YthekledcoeeheaaW.PrintLast Go.Proofs.YthekledcoeeheaaW.PrintMore Go.Proofs.Ythekledcoeeheaa.P
theorem own : ownKnob Try.prog.godebug = none := by kernel_rfl
theorem laidOut : laidOutB Try.prog = true := by kernel_rfl
set_option maxRecDepth 100000 in
theorem lifted (os : Os) (started : os.Started) (H : Type) (enc : TypeId × Value → H) :
    ReturnsInHanded {} Try.checked os 7 .any (Rows.routeCanonSpec.pre6 enc Try.prog Try.f7 Rows.routeCanonRow.domain false) (Rows.routeCanonSpec.post enc Try.prog Try.f7 false true false false) := by
  refine returnsInHanded_of_change_sized (C := Try.checked) own started (by kernel_rfl) Try.func7
    (ChangeSpec.witness6 (enc := enc) (C := Try.checked) false ⟨#[], #[.agg #[.int .u32 0, .int .i64 0, .slice none 0 0, .slice none 0 0, .int .u32 0, .int .u32 0, .int .i64 0, .int .u32 0]], []⟩ 8 (by kernel_rfl) (by kernel_rfl) (by kernel_rfl) (by kernel_rfl)) ?_
  intro W base args ds gs before hval0 hW hcnd hsz0 _
  have hval : ∀ (j : Nat) t v, Try.f7.params[j]? = some t → args[j]? = some v → Value.okWide Try.prog W .any base t v := hval0
  have hW' := hW
  obtain ⟨p, q, hA0, hV, rfl, hfz, hnd⟩ := hW
  have hA : DataW.TrodAll enc Try.prog W 0 (fun _ => true) true Try.f7.params.toList args.toList ds p := hA0
  rw [Try.params7] at hA hval
  obtain ⟨v0, vs0, d0, ds0, p0, q0, hargs, rfl, rfl, h0, r0⟩ := trodAll_cons hA
  obtain ⟨rfl, rfl, rfl⟩ := trodAll_nil r0
  obtain rfl : args = #[v0] := by cases args; simp_all
  obtain ⟨rfl, rfl⟩ := trodVars_none hV
  obtain ⟨cs0, rfl, hz0⟩ := okWide_struct Try.underlying38 (hval 0 38 v0 rfl rfl)
  have k0 := h0
  have lt0 : ∀ x ∈ p0, x.block < W.heap.size := by obtain ⟨m, hm⟩ := k0; exact DataW.trod_lt m _ _ _ hm
  obtain ⟨⟨⟨l0_0_0, l0_0_1⟩, l0_1, l0_2, l0_3, l0_4, l0_5, l0_6⟩, hK0, hg0⟩ : ∃ x_ : S38, k38.K W x_ cs0.toList ∧ good38 x_ := by obtain ⟨fuel, hf⟩ := h0; exact opens_T38 _ _ _ (by simpa [Value.cells] using hf)
  obtain ⟨A0_1_, c0_1_, A0_2_, c0_2_, hcs0, hle0_1, hC0_1, hle0_2, hC0_2⟩ := k38_open hK0
  obtain rfl : cs0 = #[.int .u32 l0_0_0, .int .i64 l0_0_1, .slice A0_1_ l0_1.length c0_1_, .slice A0_2_ l0_2.length c0_2_, .int .u32 l0_3, .int .u32 l0_4, .int .i64 l0_5, .int .u32 l0_6] := Array.ext' hcs0
  obtain ⟨⟨g0_0_0, g0_0_1⟩, g0_1, g0_2, g0_3, g0_4, g0_5, g0_6⟩ := hg0
  clear hA0 hval0 hsz0
  obtain ⟨k_, hk_⟩ := pure_RouteCanon l0_0_0 l0_0_1 l0_1 l0_2 l0_3 l0_4 l0_5 l0_6 g0_0_0 g0_0_1 g0_1 g0_2 g0_3 g0_4 g0_5 g0_6
  refine (q24z.calls k_ l0_0_0 l0_0_1 A0_1_ c0_1_ l0_1 A0_2_ c0_2_ l0_2 l0_3 l0_4 l0_5 l0_6 true W hC0_1 hle0_1 hC0_2 hle0_2 hk_).mono fun e W' ⟨he, bel⟩ => ?_
  subst he
  exact ⟨_, rfl, _, _, _, [], _, [], hW', trodAll_mk1 (shut_bool Try.underlying4 _), (trodAll_cons_mk (Below.trod laidOut (by kernel_rfl) (of_decide_eq_true (by kernel_rfl)) k0 bel lt0) trodAll_mk0), rfl, bel.frame _, fun h => by cases h⟩
theorem over : Rows.routeCanonRow.holds Try.pinned (OpenSpec.ofChange Rows.routeCanonSpec) :=
  OpenClaim.holds_of_wide 7 Try.f7 rfl rfl rfl rfl rfl rfl rfl ⟨rfl, rfl, rfl, rfl, rfl⟩ rfl rfl rfl rfl rfl (by kernel_rfl) Try.func7 (by kernel_rfl)
    (of_decide_eq_true (by kernel_rfl)) (by unfold Func.isWrapper; first | (rw [if_pos (by decide +kernel)]; kernel_rfl) | (rw [if_neg (by decide +kernel)]; exact ⟨rfl, rfl⟩))
    (fun os started H enc _ => lifted os started H enc)
theorem proved : Rows.RouteCanonSaid := over
end Go.Proofs.Ythekledcoeeheaa.routeCanon
namespace Go.Proofs.Ythekledcoeeheaa
/-- The row, under a short name, for the claim. -/
theorem routeCanon_holds : Rows.RouteCanonSaid := routeCanon.proved
#print axioms routeCanon_holds
end Go.Proofs.Ythekledcoeeheaa
