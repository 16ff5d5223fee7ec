/-
  Proved: for every input the law ActDoes answers true, and each argument reads behind the call as it read before.
  Conditions: none beside the row's own.
-/
import Derived.Lib.SlicesCompact
import Derived.Test.YtgelpccjdndfoaaRows
import Derived.WalkKit
import Derived.ProofKit
import Derived.OpenShut
import Derived.ShutString
import Derived.ChangeOld
import Derived.Below
import Derived.SizedLaws
import Derived.Test.YtgelpccjdndfoaaCActDoes0
import Derived.Test.YtgelpccjdndfoaaCActDoes1
import Derived.Test.YtgelpccjdndfoaaCActDoes2
import Derived.Test.YtgelpccjdndfoaaCActDoes3
import Derived.Test.YtgelpccjdndfoaaCActDoes4
set_option linter.unusedVariables false
set_option linter.unusedSimpArgs false
namespace Go.Proofs.Ytgelpccjdndfoaa.P
open Go.RowKit Go.Proofs.YtgelpccjdndfoaaW.PrintWords Go.Proofs.YtgelpccjdndfoaaW.PrintMore Go.ChangeShapes Go.WideShapes
def good50 (x : S50) : Prop := (Lit.int .u32 x.f0).wf = true ∧ (Lit.int .u32 x.f1).wf = true
theorem opens_T50 {H : Type} {enc : TypeId × Value → H} {w : World} {base : Nat} {spare : Nat → Bool} {held : Bool} : Opens enc Try.prog w base spare held k50 50 good50 := by
  intro fuel cs y h
  obtain ⟨xs, n, _, _, hlen, hxl, hf⟩ := DataW.trod_struct Try.underlying50 h
  have hcs : cs.length = 2 := hlen.trans (by kernel_rfl)
  have h0 := hf 0 _ rfl
  obtain ⟨y0, e0⟩ : ∃ y_, xs[0]? = some y_ := ⟨_, List.getElem?_eq_getElem (by rw [hxl]; decide)⟩
  rw [e0] at h0
  have q0 : DataW.trod enc Try.prog w base spare held n 22 ((cs.drop 0).take 1) = some y0 := (congrArg (fun z => DataW.trod enc Try.prog w base spare held n 22 ((cs.drop 0).take z)) (show 1 = Try.prog.cellsOf 22 from by kernel_rfl)).trans h0
  obtain ⟨x0, k0_, g0⟩ := (opens_int Try.underlying22) _ _ _ q0
  have h1 := hf 1 _ rfl
  obtain ⟨y1, e1⟩ : ∃ y_, xs[1]? = some y_ := ⟨_, List.getElem?_eq_getElem (by rw [hxl]; decide)⟩
  rw [e1] at h1
  have q1 : DataW.trod enc Try.prog w base spare held n 22 ((cs.drop 1).take 1) = some y1 := (congrArg (fun z => DataW.trod enc Try.prog w base spare held n 22 ((cs.drop 1).take z)) (show 1 = Try.prog.cellsOf 22 from by kernel_rfl)).trans h1
  obtain ⟨x1, k1_, g1⟩ := (opens_int Try.underlying22) _ _ _ q1
  have s0 : cs.drop 0 = (cs.drop 0).take 1 ++ cs.drop 1 := by have e_ := (List.take_append_drop 1 (cs.drop 0)).symm; rwa [List.drop_drop] at e_
  have s1 : cs.drop 1 = (cs.drop 1).take 1 := (List.take_of_length_le (by rw [List.length_drop, hcs]; decide)).symm
  exact ⟨⟨x0, x1⟩, ⟨(cs.drop 0).take 1, cs.drop 1, (show cs = _ from s0), k0_, (by rw [s1]; exact k1_)⟩, g0, g1⟩
def good53 (x : S53) : Prop := True ∧ (x.f1.length ≤ 9223372036854775807 ∧ ∀ z_ ∈ x.f1, good50 z_)
theorem opens_T53 {H : Type} {enc : TypeId × Value → H} {w : World} {base : Nat} {spare : Nat → Bool} {held : Bool} : Opens enc Try.prog w base spare held k53 53 good53 := by
  intro fuel cs y h
  obtain ⟨xs, n, _, _, hlen, hxl, hf⟩ := DataW.trod_struct Try.underlying53 h
  have hcs : cs.length = 2 := hlen.trans (by kernel_rfl)
  have h0 := hf 0 _ rfl
  obtain ⟨y0, e0⟩ : ∃ y_, xs[0]? = some y_ := ⟨_, List.getElem?_eq_getElem (by rw [hxl]; decide)⟩
  rw [e0] at h0
  have q0 : DataW.trod enc Try.prog w base spare held n 4 ((cs.drop 0).take 1) = some y0 := (congrArg (fun z => DataW.trod enc Try.prog w base spare held n 4 ((cs.drop 0).take z)) (show 1 = Try.prog.cellsOf 4 from by kernel_rfl)).trans h0
  obtain ⟨x0, k0_, g0⟩ := (opens_bool Try.underlying4) _ _ _ q0
  have h1 := hf 1 _ rfl
  obtain ⟨y1, e1⟩ : ∃ y_, xs[1]? = some y_ := ⟨_, List.getElem?_eq_getElem (by rw [hxl]; decide)⟩
  rw [e1] at h1
  have q1 : DataW.trod enc Try.prog w base spare held n 51 ((cs.drop 1).take 1) = some y1 := (congrArg (fun z => DataW.trod enc Try.prog w base spare held n 51 ((cs.drop 1).take z)) (show 1 = Try.prog.cellsOf 51 from by kernel_rfl)).trans h1
  obtain ⟨x1, k1_, g1⟩ := (opens_slice Try.underlying51 (by kernel_rfl) opens_T50) _ _ _ q1
  have s0 : cs.drop 0 = (cs.drop 0).take 1 ++ cs.drop 1 := by have e_ := (List.take_append_drop 1 (cs.drop 0)).symm; rwa [List.drop_drop] at e_
  have s1 : cs.drop 1 = (cs.drop 1).take 1 := (List.take_of_length_le (by rw [List.length_drop, hcs]; decide)).symm
  exact ⟨⟨x0, x1⟩, ⟨(cs.drop 0).take 1, cs.drop 1, (show cs = _ from s0), k0_, (by rw [s1]; exact k1_)⟩, g0, g1⟩
def good26 (x : S26) : Prop := (Lit.int .i64 x.f0).wf = true ∧ (Lit.int .u32 x.f1).wf = true ∧ (x.f2.length ≤ 9223372036854775807 ∧ ∀ z_ ∈ x.f2, (Lit.int .u32 z_).wf = true) ∧ (x.f3.length ≤ 9223372036854775807 ∧ ∀ z_ ∈ x.f3, good53 z_)
theorem opens_T26 {H : Type} {enc : TypeId × Value → H} {w : World} {base : Nat} {spare : Nat → Bool} {held : Bool} : Opens enc Try.prog w base spare held k26 26 good26 := by
  intro fuel cs y h
  obtain ⟨xs, n, _, _, hlen, hxl, hf⟩ := DataW.trod_struct Try.underlying26 h
  have hcs : cs.length = 4 := hlen.trans (by kernel_rfl)
  have h0 := hf 0 _ rfl
  obtain ⟨y0, e0⟩ : ∃ y_, xs[0]? = some y_ := ⟨_, List.getElem?_eq_getElem (by rw [hxl]; decide)⟩
  rw [e0] at h0
  have q0 : DataW.trod enc Try.prog w base spare held n 3 ((cs.drop 0).take 1) = some y0 := (congrArg (fun z => DataW.trod enc Try.prog w base spare held n 3 ((cs.drop 0).take z)) (show 1 = Try.prog.cellsOf 3 from by kernel_rfl)).trans h0
  obtain ⟨x0, k0_, g0⟩ := (opens_int Try.underlying3) _ _ _ q0
  have h1 := hf 1 _ rfl
  obtain ⟨y1, e1⟩ : ∃ y_, xs[1]? = some y_ := ⟨_, List.getElem?_eq_getElem (by rw [hxl]; decide)⟩
  rw [e1] at h1
  have q1 : DataW.trod enc Try.prog w base spare held n 22 ((cs.drop 1).take 1) = some y1 := (congrArg (fun z => DataW.trod enc Try.prog w base spare held n 22 ((cs.drop 1).take z)) (show 1 = Try.prog.cellsOf 22 from by kernel_rfl)).trans h1
  obtain ⟨x1, k1_, g1⟩ := (opens_int Try.underlying22) _ _ _ q1
  have h2 := hf 2 _ rfl
  obtain ⟨y2, e2⟩ : ∃ y_, xs[2]? = some y_ := ⟨_, List.getElem?_eq_getElem (by rw [hxl]; decide)⟩
  rw [e2] at h2
  have q2 : DataW.trod enc Try.prog w base spare held n 23 ((cs.drop 2).take 1) = some y2 := (congrArg (fun z => DataW.trod enc Try.prog w base spare held n 23 ((cs.drop 2).take z)) (show 1 = Try.prog.cellsOf 23 from by kernel_rfl)).trans h2
  obtain ⟨x2, k2_, g2⟩ := (opens_slice Try.underlying23 (by kernel_rfl) (opens_int Try.underlying22)) _ _ _ q2
  have h3 := hf 3 _ rfl
  obtain ⟨y3, e3⟩ : ∃ y_, xs[3]? = some y_ := ⟨_, List.getElem?_eq_getElem (by rw [hxl]; decide)⟩
  rw [e3] at h3
  have q3 : DataW.trod enc Try.prog w base spare held n 24 ((cs.drop 3).take 1) = some y3 := (congrArg (fun z => DataW.trod enc Try.prog w base spare held n 24 ((cs.drop 3).take z)) (show 1 = Try.prog.cellsOf 24 from by kernel_rfl)).trans h3
  obtain ⟨x3, k3_, g3⟩ := (opens_slice Try.underlying24 (by kernel_rfl) opens_T53) _ _ _ q3
  have s0 : cs.drop 0 = (cs.drop 0).take 1 ++ cs.drop 1 := by have e_ := (List.take_append_drop 1 (cs.drop 0)).symm; rwa [List.drop_drop] at e_
  have s1 : cs.drop 1 = (cs.drop 1).take 1 ++ cs.drop 2 := by have e_ := (List.take_append_drop 1 (cs.drop 1)).symm; rwa [List.drop_drop] at e_
  have s2 : cs.drop 2 = (cs.drop 2).take 1 ++ cs.drop 3 := by have e_ := (List.take_append_drop 1 (cs.drop 2)).symm; rwa [List.drop_drop] at e_
  have s3 : cs.drop 3 = (cs.drop 3).take 1 := (List.take_of_length_le (by rw [List.length_drop, hcs]; decide)).symm
  exact ⟨⟨x0, x1, x2, x3⟩, ⟨(cs.drop 0).take 1, cs.drop 1, (show cs = _ from s0), k0_, ⟨(cs.drop 1).take 1, cs.drop 2, s1, k1_, ⟨(cs.drop 2).take 1, cs.drop 3, s2, k2_, (by rw [s3]; exact k3_)⟩⟩⟩, g0, g1, g2, g3⟩
def good28 (x : S28) : Prop := (Lit.int .u32 x.f0).wf = true ∧ (Lit.int .i64 x.f1).wf = true
theorem opens_T28 {H : Type} {enc : TypeId × Value → H} {w : World} {base : Nat} {spare : Nat → Bool} {held : Bool} : Opens enc Try.prog w base spare held k28 28 good28 := by
  intro fuel cs y h
  obtain ⟨xs, n, _, _, hlen, hxl, hf⟩ := DataW.trod_struct Try.underlying28 h
  have hcs : cs.length = 2 := hlen.trans (by kernel_rfl)
  have h0 := hf 0 _ rfl
  obtain ⟨y0, e0⟩ : ∃ y_, xs[0]? = some y_ := ⟨_, List.getElem?_eq_getElem (by rw [hxl]; decide)⟩
  rw [e0] at h0
  have q0 : DataW.trod enc Try.prog w base spare held n 22 ((cs.drop 0).take 1) = some y0 := (congrArg (fun z => DataW.trod enc Try.prog w base spare held n 22 ((cs.drop 0).take z)) (show 1 = Try.prog.cellsOf 22 from by kernel_rfl)).trans h0
  obtain ⟨x0, k0_, g0⟩ := (opens_int Try.underlying22) _ _ _ q0
  have h1 := hf 1 _ rfl
  obtain ⟨y1, e1⟩ : ∃ y_, xs[1]? = some y_ := ⟨_, List.getElem?_eq_getElem (by rw [hxl]; decide)⟩
  rw [e1] at h1
  have q1 : DataW.trod enc Try.prog w base spare held n 3 ((cs.drop 1).take 1) = some y1 := (congrArg (fun z => DataW.trod enc Try.prog w base spare held n 3 ((cs.drop 1).take z)) (show 1 = Try.prog.cellsOf 3 from by kernel_rfl)).trans h1
  obtain ⟨x1, k1_, g1⟩ := (opens_int Try.underlying3) _ _ _ q1
  have s0 : cs.drop 0 = (cs.drop 0).take 1 ++ cs.drop 1 := by have e_ := (List.take_append_drop 1 (cs.drop 0)).symm; rwa [List.drop_drop] at e_
  have s1 : cs.drop 1 = (cs.drop 1).take 1 := (List.take_of_length_le (by rw [List.length_drop, hcs]; decide)).symm
  exact ⟨⟨x0, x1⟩, ⟨(cs.drop 0).take 1, cs.drop 1, (show cs = _ from s0), k0_, (by rw [s1]; exact k1_)⟩, g0, g1⟩
def good30 (x : S30) : Prop := good28 x.f0 ∧ (x.f1.length ≤ 9223372036854775807 ∧ ∀ z_ ∈ x.f1, (Lit.int .u32 z_).wf = true) ∧ (x.f2.length ≤ 9223372036854775807 ∧ ∀ z_ ∈ x.f2, (Lit.int .u32 z_).wf = true) ∧ (Lit.int .u32 x.f3).wf = true ∧ (Lit.int .u32 x.f4).wf = true ∧ (Lit.int .i64 x.f5).wf = true ∧ (Lit.int .u32 x.f6).wf = true
theorem opens_T30 {H : Type} {enc : TypeId × Value → H} {w : World} {base : Nat} {spare : Nat → Bool} {held : Bool} : Opens enc Try.prog w base spare held k30 30 good30 := by
  intro fuel cs y h
  obtain ⟨xs, n, _, _, hlen, hxl, hf⟩ := DataW.trod_struct Try.underlying30 h
  have hcs : cs.length = 8 := hlen.trans (by kernel_rfl)
  have h0 := hf 0 _ rfl
  obtain ⟨y0, e0⟩ : ∃ y_, xs[0]? = some y_ := ⟨_, List.getElem?_eq_getElem (by rw [hxl]; decide)⟩
  rw [e0] at h0
  have q0 : DataW.trod enc Try.prog w base spare held n 28 ((cs.drop 0).take 2) = some y0 := (congrArg (fun z => DataW.trod enc Try.prog w base spare held n 28 ((cs.drop 0).take z)) (show 2 = Try.prog.cellsOf 28 from by kernel_rfl)).trans h0
  obtain ⟨x0, k0_, g0⟩ := opens_T28 _ _ _ q0
  have h1 := hf 1 _ rfl
  obtain ⟨y1, e1⟩ : ∃ y_, xs[1]? = some y_ := ⟨_, List.getElem?_eq_getElem (by rw [hxl]; decide)⟩
  rw [e1] at h1
  have q1 : DataW.trod enc Try.prog w base spare held n 23 ((cs.drop 2).take 1) = some y1 := (congrArg (fun z => DataW.trod enc Try.prog w base spare held n 23 ((cs.drop 2).take z)) (show 1 = Try.prog.cellsOf 23 from by kernel_rfl)).trans h1
  obtain ⟨x1, k1_, g1⟩ := (opens_slice Try.underlying23 (by kernel_rfl) (opens_int Try.underlying22)) _ _ _ q1
  have h2 := hf 2 _ rfl
  obtain ⟨y2, e2⟩ : ∃ y_, xs[2]? = some y_ := ⟨_, List.getElem?_eq_getElem (by rw [hxl]; decide)⟩
  rw [e2] at h2
  have q2 : DataW.trod enc Try.prog w base spare held n 23 ((cs.drop 3).take 1) = some y2 := (congrArg (fun z => DataW.trod enc Try.prog w base spare held n 23 ((cs.drop 3).take z)) (show 1 = Try.prog.cellsOf 23 from by kernel_rfl)).trans h2
  obtain ⟨x2, k2_, g2⟩ := (opens_slice Try.underlying23 (by kernel_rfl) (opens_int Try.underlying22)) _ _ _ q2
  have h3 := hf 3 _ rfl
  obtain ⟨y3, e3⟩ : ∃ y_, xs[3]? = some y_ := ⟨_, List.getElem?_eq_getElem (by rw [hxl]; decide)⟩
  rw [e3] at h3
  have q3 : DataW.trod enc Try.prog w base spare held n 22 ((cs.drop 4).take 1) = some y3 := (congrArg (fun z => DataW.trod enc Try.prog w base spare held n 22 ((cs.drop 4).take z)) (show 1 = Try.prog.cellsOf 22 from by kernel_rfl)).trans h3
  obtain ⟨x3, k3_, g3⟩ := (opens_int Try.underlying22) _ _ _ q3
  have h4 := hf 4 _ rfl
  obtain ⟨y4, e4⟩ : ∃ y_, xs[4]? = some y_ := ⟨_, List.getElem?_eq_getElem (by rw [hxl]; decide)⟩
  rw [e4] at h4
  have q4 : DataW.trod enc Try.prog w base spare held n 22 ((cs.drop 5).take 1) = some y4 := (congrArg (fun z => DataW.trod enc Try.prog w base spare held n 22 ((cs.drop 5).take z)) (show 1 = Try.prog.cellsOf 22 from by kernel_rfl)).trans h4
  obtain ⟨x4, k4_, g4⟩ := (opens_int Try.underlying22) _ _ _ q4
  have h5 := hf 5 _ rfl
  obtain ⟨y5, e5⟩ : ∃ y_, xs[5]? = some y_ := ⟨_, List.getElem?_eq_getElem (by rw [hxl]; decide)⟩
  rw [e5] at h5
  have q5 : DataW.trod enc Try.prog w base spare held n 3 ((cs.drop 6).take 1) = some y5 := (congrArg (fun z => DataW.trod enc Try.prog w base spare held n 3 ((cs.drop 6).take z)) (show 1 = Try.prog.cellsOf 3 from by kernel_rfl)).trans h5
  obtain ⟨x5, k5_, g5⟩ := (opens_int Try.underlying3) _ _ _ q5
  have h6 := hf 6 _ rfl
  obtain ⟨y6, e6⟩ : ∃ y_, xs[6]? = some y_ := ⟨_, List.getElem?_eq_getElem (by rw [hxl]; decide)⟩
  rw [e6] at h6
  have q6 : DataW.trod enc Try.prog w base spare held n 22 ((cs.drop 7).take 1) = some y6 := (congrArg (fun z => DataW.trod enc Try.prog w base spare held n 22 ((cs.drop 7).take z)) (show 1 = Try.prog.cellsOf 22 from by kernel_rfl)).trans h6
  obtain ⟨x6, k6_, g6⟩ := (opens_int Try.underlying22) _ _ _ q6
  have s0 : cs.drop 0 = (cs.drop 0).take 2 ++ cs.drop 2 := by have e_ := (List.take_append_drop 2 (cs.drop 0)).symm; rwa [List.drop_drop] at e_
  have s1 : cs.drop 2 = (cs.drop 2).take 1 ++ cs.drop 3 := by have e_ := (List.take_append_drop 1 (cs.drop 2)).symm; rwa [List.drop_drop] at e_
  have s2 : cs.drop 3 = (cs.drop 3).take 1 ++ cs.drop 4 := by have e_ := (List.take_append_drop 1 (cs.drop 3)).symm; rwa [List.drop_drop] at e_
  have s3 : cs.drop 4 = (cs.drop 4).take 1 ++ cs.drop 5 := by have e_ := (List.take_append_drop 1 (cs.drop 4)).symm; rwa [List.drop_drop] at e_
  have s4 : cs.drop 5 = (cs.drop 5).take 1 ++ cs.drop 6 := by have e_ := (List.take_append_drop 1 (cs.drop 5)).symm; rwa [List.drop_drop] at e_
  have s5 : cs.drop 6 = (cs.drop 6).take 1 ++ cs.drop 7 := by have e_ := (List.take_append_drop 1 (cs.drop 6)).symm; rwa [List.drop_drop] at e_
  have s6 : cs.drop 7 = (cs.drop 7).take 1 := (List.take_of_length_le (by rw [List.length_drop, hcs]; decide)).symm
  exact ⟨⟨x0, x1, x2, x3, x4, x5, x6⟩, ⟨(cs.drop 0).take 2, cs.drop 2, (show cs = _ from s0), k0_, ⟨(cs.drop 2).take 1, cs.drop 3, s1, k1_, ⟨(cs.drop 3).take 1, cs.drop 4, s2, k2_, ⟨(cs.drop 4).take 1, cs.drop 5, s3, k3_, ⟨(cs.drop 5).take 1, cs.drop 6, s4, k4_, ⟨(cs.drop 6).take 1, cs.drop 7, s5, k5_, (by rw [s6]; exact k6_)⟩⟩⟩⟩⟩⟩, g0, g1, g2, g3, g4, g5, g6⟩
end Go.Proofs.Ytgelpccjdndfoaa.P
namespace Go.Proofs.Ytgelpccjdndfoaa.P
open Go.RowKit Go.Proofs.YtgelpccjdndfoaaW.PrintWords Go.Proofs.YtgelpccjdndfoaaW.PrintLast Go.Proofs.YtgelpccjdndfoaaW.PrintMore
attribute [local go_sem] max2_int min2_int max_two min_two max_three min_three max_four min_four
/-! ### act_All: function 22 -/
def q30z.l0 : Nat → List (S26) → Int → Int → Int → Int → List Int → List Int → Int → Int → Int → Int → Option (Int × Int × List Int × List Int × Int × Int × Int × Int)
 | 0, _, _, _, _, _, _, _, _, _, _, _ => none
 | k + 1, x9, x10, x11, x2000, x2001, x2002, x2003, x2004, x2005, x2006, x2007 => if x11 < x10 then (if 0 ≤ x11 then (if x11 < (x9.length : Int) then ((q11z.f k ((rd_T26 x9 x11).f0) ((rd_T26 x9 x11).f1) ((rd_T26 x9 x11).f2) ((rd_T26 x9 x11).f3) x2000 x2001 x2002 x2003 x2004 x2005 x2006 x2007).bind fun bt17 => (q30z.l0 k x9 x10 (wrap64 (x11 + 1)) bt17.1 bt17.2.1 bt17.2.2.1 bt17.2.2.2.1 bt17.2.2.2.2.1 bt17.2.2.2.2.2.1 bt17.2.2.2.2.2.2.1 bt17.2.2.2.2.2.2.2)) else (none)) else (none)) else (some (x2000, x2001, x2002, x2003, x2004, x2005, x2006, x2007))
def q30z.f (k : Nat) (l0 : List (S26)) (a1_0 : Int) (a1_1 : Int) (l1_2 : List Int) (l1_3 : List Int) (a1_4 : Int) (a1_5 : Int) (a1_6 : Int) (a1_7 : Int) : Option (Int × Int × List Int × List Int × Int × Int × Int × Int) := (q8z.f a1_0 a1_1 l1_2 l1_3 a1_4 a1_5 a1_6 a1_7).bind fun bt3 => (q30z.l0 k l0 (l0.length : Int) 0 bt3.1 bt3.2.1 bt3.2.2.1 bt3.2.2.2.1 bt3.2.2.2.2.1 bt3.2.2.2.2.2.1 bt3.2.2.2.2.2.2.1 bt3.2.2.2.2.2.2.2)
theorem q30z.mono_l : ∀ k, (∀ y0 y1 y2 y3 y4 y5 y6 y7 y8 y9 y10, LeO (q30z.l0 k y0 y1 y2 y3 y4 y5 y6 y7 y8 y9 y10) (q30z.l0 (k + 1) y0 y1 y2 y3 y4 y5 y6 y7 y8 y9 y10))
 | 0 => fun _ _ _ _ _ _ _ _ _ _ _ r h => by simp [q30z.l0] at h
 | k + 1 => by
  have ih0 := q30z.mono_l k
  ·
   intro y0 y1 y2 y3 y4 y5 y6 y7 y8 y9 y10
   unfold q30z.l0
   repeat' first
   | (with_reducible exact ih0 _ _ _ _ _ _ _ _ _ _ _)
   | (with_reducible exact q11z.mono _ _ _ _ _ _ _ _ _ _ _ _ _)
   | (with_reducible exact LeO.refl _)
   | (with_reducible exact LeO.none _)
   | (with_reducible refine LeO.ite ?_ ?_)
   | (with_reducible refine LeO.bind ?_ (fun _ => ?_))
   | exact ih0 _ _ _ _ _ _ _ _ _ _ _
   | exact q11z.mono _ _ _ _ _ _ _ _ _ _ _ _ _
   | exact LeO.none _
   | refine LeO.ite ?_ ?_
   | refine LeO.bind ?_ (fun _ => ?_)
theorem q30z.mono : ∀ a0 a1 a2 a3 a4 a5 a6 a7 a8 k, LeO (q30z.f k a0 a1 a2 a3 a4 a5 a6 a7 a8) (q30z.f (k + 1) a0 a1 a2 a3 a4 a5 a6 a7 a8) := by
 intro a0 a1 a2 a3 a4 a5 a6 a7 a8 k
 have ih0 := q30z.mono_l k
 unfold q30z.f
 repeat' first
   | (with_reducible exact ih0 _ _ _ _ _ _ _ _ _ _ _)
   | (with_reducible exact q11z.mono _ _ _ _ _ _ _ _ _ _ _ _ _)
   | (with_reducible exact LeO.refl _)
   | (with_reducible exact LeO.none _)
   | (with_reducible refine LeO.ite ?_ ?_)
   | (with_reducible refine LeO.bind ?_ (fun _ => ?_))
   | exact ih0 _ _ _ _ _ _ _ _ _ _ _
   | exact q11z.mono _ _ _ _ _ _ _ _ _ _ _ _ _
   | exact LeO.none _
   | refine LeO.ite ?_ ?_
   | refine LeO.bind ?_ (fun _ => ?_)
set_option maxHeartbeats 8000000 in
set_option maxRecDepth 100000 in
theorem q30z.calls (k : Nat) (A0 : Option Addr) (c0 : Nat) (l0 : List (S26)) (a1_0 : Int) (a1_1 : Int) (A1_2 : Option Addr) (c1_2 : Nat) (l1_2 : List Int) (A1_3 : Option Addr) (c1_3 : Nat) (l1_3 : List Int) (a1_4 : Int) (a1_5 : Int) (a1_6 : Int) (a1_7 : Int) (r1 : Int) (r2 : Int) (r3 : List Int) (r4 : List Int) (r5 : Int) (r6 : Int) (r7 : Int) (r8 : Int) (w : World) (hr0 : Kd.C k26 w A0 l0.length l0) (hc0 : l0.length ≤ c0) (hr1_2 : Kd.C (Kd.int .u32) w A1_2 l1_2.length l1_2) (hc1_2 : l1_2.length ≤ c1_2) (hr1_3 : Kd.C (Kd.int .u32) w A1_3 l1_3.length l1_3) (hc1_3 : l1_3.length ≤ c1_3) (h : q30z.f k l0 a1_0 a1_1 l1_2 l1_3 a1_4 a1_5 a1_6 a1_7 = some (r1, r2, r3, r4, r5, r6, r7, r8)) :
  Calls Try.prog 22 #[.slice A0 l0.length c0, .agg #[.int .u32 a1_0, .int .i64 a1_1, .slice A1_2 l1_2.length c1_2, .slice A1_3 l1_3.length c1_3, .int .u32 a1_4, .int .u32 a1_5, .int .i64 a1_6, .int .u32 a1_7]] w fun e w' => ∃ v2_ v3_ : Value, e = .returned (.agg #[.int .u32 r1, .int .i64 r2, v2_, v3_, .int .u32 r5, .int .u32 r6, .int .i64 r7, .int .u32 r8]) ∧ Kd.R (Kd.int .u32) 22 w' w.heap.size (fun k_ => some k_ ≠ (v3_ : Value).ownBlock) v2_ r3 ∧ Kd.R (Kd.int .u32) 22 w' w.heap.size (fun k_ => some k_ ≠ (v2_ : Value).ownBlock) v3_ r4 ∧ Below w.heap.size w w' := by
 have hu30 := Try.underlying30
 have hu26 := Try.underlying26
 have HR0 := Aside0.mk hr0
 have HC0 := Aside0.mk hc0
 clear hr0 hc0
 have HR1_2 := Aside0.mk hr1_2
 have HC1_2 := Aside0.mk hc1_2
 clear hr1_2 hc1_2
 have HR1_3 := Aside0.mk hr1_3
 have HC1_3 := Aside0.mk hc1_3
 clear hr1_3 hc1_3
 have HB := Aside0.mk (Below.refl w.heap.size w)
 have H : ((q8z.f a1_0 a1_1 l1_2 l1_3 a1_4 a1_5 a1_6 a1_7).bind fun bt3 => (q30z.l0 k l0 (l0.length : Int) 0 bt3.1 bt3.2.1 bt3.2.2.1 bt3.2.2.2.1 bt3.2.2.2.2.1 bt3.2.2.2.2.2.1 bt3.2.2.2.2.2.2.1 bt3.2.2.2.2.2.2.2)) = some (r1, r2, r3, r4, r5, r6, r7, r8) := h
 clear h
 replace H := Option.bind_eq_some_iff.mp H
 obtain ⟨⟨t3, t4, t5, t8, t11, t12, t13, t14⟩, A30, H⟩ := H
 replace H : (q30z.l0 k l0 (l0.length : Int) 0 t3 t4 t5 t8 t11 t12 t13 t14) = some (r1, r2, r3, r4, r5, r6, r7, r8) := H
 have A3 := Aside0.mk A30
 clear A30
 have H' := Aside0.mk H
 clear H
 go_enter Try.func22, Try.ntmps22
 go_wp2_with (first | ((with_reducible refine gate_dst (N := 3) rfl ?_); refine box_event ?hg (N := 3) ?hd (cs := #[.int .u32 a1_0, .int .i64 a1_1, .slice A1_2 l1_2.length c1_2, .slice A1_3 l1_3.length c1_3, .int .u32 a1_4, .int .u32 a1_5, .int .i64 a1_6, .int .u32 a1_7]) (t := 30) ?hr ?_; (case hd => rfl); (case hg => rfl); (case hr => first | (go_simp; done) | (go_simp; rfl)); intro gb1 hg w4 hbox hb; have BK1 := Aside0.mk (hbox); have GW1 := gwS hg HB; have GE1 := gwS hg HB; replace HB := hbS HB hb; clear hb hbox hg) | ((with_reducible refine gate_dst (N := 4) rfl ?_); refine box_event ?hg (N := 4) ?hd (cs := #[.int .u32 0, .int .i64 0, .slice none 0 0, .slice none 0 0, .int .u32 0, .int .u32 0, .int .i64 0, .int .u32 0]) (t := 30) ?hr ?_; (case hd => rfl); (case hg => rfl); (case hr => first | (go_simp; done) | (go_simp; rfl)); intro gb2 hg w5 hbox hb; have BK2 := Aside0.mk (hbox); have GW2 := gwS hg HB; have GE2 := gwS hg HB; have NB1_2 := nbL hg BK1; have NB2_1 := nbG hg BK1; replace BK1 := bkB BK1 hb; replace HB := hbS HB hb; clear hb hbox hg; have hnb6 := NB1_2.out; have hnc6 := NB2_1.out; obtain ⟨hcz7_0, hcz7_1, hcz7_2, hcz7_3, hcz7_4, hcz7_5, hcz7_6, hcz7_7, hfz7_0, hfz7_1, hfz7_2, hfz7_3, hfz7_4, hfz7_5, hfz7_6, hfz7_7⟩ := bc8 BK1) | ((with_reducible refine gate_callee (f := 26) rfl ?_); refine goesL_ (some 8) rfl rfl Try.func26 (by kernel_rfl) rfl #[.agg #[.int .u32 a1_0, .int .i64 a1_1, .slice A1_2 l1_2.length c1_2, .slice A1_3 l1_3.length c1_3, .int .u32 a1_4, .int .u32 a1_5, .int .i64 a1_6, .int .u32 a1_7]] rfl (by (try simp only [List.map_toArray, List.map_cons, List.map_nil]); first | done | rfl | (simp only [List.length_drop, List.length_take]; rfl)) ?_; (with_reducible refine (q8z.calls a1_0 a1_1 _ _ l1_2 _ _ l1_3 a1_4 a1_5 a1_6 a1_7 t3 t4 t5 t8 t11 t12 t13 t14 _ ?side1 ?side2 ?side3 ?side4 A3.out).mono ?_); (case side1 => repeat (first | exact (Kd.C_below HR1_2.out HB.out) | (with_reducible refine Kd.C_alloc ?_ _) | (with_reducible refine Kd.C_drewN ?_ _) | (with_reducible refine Kd.C_drew ?_))); (case side2 => exact HC1_2.out); (case side3 => repeat (first | exact (Kd.C_below HR1_3.out HB.out) | (with_reducible refine Kd.C_alloc ?_ _) | (with_reducible refine Kd.C_drewN ?_ _) | (with_reducible refine Kd.C_drew ?_))); (case side4 => exact HC1_3.out); rintro e w8 ⟨v6, v9, rfl, ho0, ho1, hb⟩; refine ⟨_, rfl, ?_⟩; have HO7 := Aside0.mk (Kd.R_lower ho0 (below_size (hbW HB))); have HO10 := Aside0.mk (Kd.R_lower ho1 (below_size (hbW HB))); replace BK1 := bkB BK1 hb; replace BK2 := bkB BK2 hb; replace HB := hbS HB hb; (try clear hb); (try clear ho0); (try clear ho1); obtain ⟨hcz9_0, hcz9_1, hcz9_2, hcz9_3, hcz9_4, hcz9_5, hcz9_6, hcz9_7, hfz9_0, hfz9_1, hfz9_2, hfz9_3, hfz9_4, hfz9_5, hfz9_6, hfz9_7⟩ := bc8 BK1; obtain ⟨Ao10, co10, eo10⟩ := Kd.R_slice HO7.out; subst eo10; obtain ⟨Ao11, co11, eo11⟩ := Kd.R_slice HO10.out; subst eo11))
 go_loopg [11] k (fun kq v11 w' => ∃ (x11_1 : Int) (x2000_1 : Int) (x2001_1 : Int) (x2002_1 : List Int) (x2003_1 : List Int) (x2004_1 : Int) (x2005_1 : Int) (x2006_1 : Int) (x2007_1 : Int) (u2002 : Value) (u2003 : Value), v11 = .int .i64 x11_1 ∧ Aside0 (q30z.l0 kq l0 (l0.length : Int) x11_1 x2000_1 x2001_1 x2002_1 x2003_1 x2004_1 x2005_1 x2006_1 x2007_1 = some (r1, r2, r3, r4, r5, r6, r7, r8)) ∧ Aside0 (kq ≤ k) ∧ Aside0 (Kd.R (Kd.int .u32) 22 w' w.heap.size (fun k_ => some k_ ≠ (u2003 : Value).ownBlock) u2002 x2002_1) ∧ Aside0 (Kd.R (Kd.int .u32) 22 w' w.heap.size (fun k_ => some k_ ≠ (u2002 : Value).ownBlock) u2003 x2003_1) ∧ Aside0 (w'.heap[gb1]? = some (.cells #[.int .u32 x2000_1, .int .i64 x2001_1, u2002, u2003, .int .u32 x2004_1, .int .u32 x2005_1, .int .i64 x2006_1, .int .u32 x2007_1] 30 (0, 0))) ∧ Aside0 (w'.heap[gb2]? = some (.cells #[.int .u32 0, .int .i64 0, (.slice none 0 0), (.slice none 0 0), .int .u32 0, .int .u32 0, .int .i64 0, .int .u32 0] 30 (0, 0))) ∧ Aside0 (Below w.heap.size w w'))
 case atStart => exact ⟨(0), (t3), (t4), (t5), (t8), (t11), (t12), (t13), (t14), (.slice Ao10 t5.length co10), (.slice Ao11 t8.length co11), (by first | rfl | (simp; done) | (simp [*]; done)), H', ⟨Nat.le_refl _⟩, ⟨moR (rW HO7)⟩, ⟨moR (rW HO10)⟩, ⟨by (with_reducible repeat (first | refine blk_drewN ?_ _ | refine blk_drew ?_ | refine blk_alloc ?_ _)); refine blk_put (cs := #[.int .u32 t3, .int .i64 t4, .slice Ao10 t5.length co10, .slice Ao11 t8.length co11, .int .u32 t11, .int .u32 t12, .int .i64 t13, .int .u32 a1_7]) ?_ 7 _ rfl; (with_reducible repeat (first | refine blk_drewN ?_ _ | refine blk_drew ?_ | refine blk_alloc ?_ _)); refine blk_put (cs := #[.int .u32 t3, .int .i64 t4, .slice Ao10 t5.length co10, .slice Ao11 t8.length co11, .int .u32 t11, .int .u32 t12, .int .i64 a1_6, .int .u32 a1_7]) ?_ 6 _ rfl; (with_reducible repeat (first | refine blk_drewN ?_ _ | refine blk_drew ?_ | refine blk_alloc ?_ _)); refine blk_put (cs := #[.int .u32 t3, .int .i64 t4, .slice Ao10 t5.length co10, .slice Ao11 t8.length co11, .int .u32 t11, .int .u32 a1_5, .int .i64 a1_6, .int .u32 a1_7]) ?_ 5 _ rfl; (with_reducible repeat (first | refine blk_drewN ?_ _ | refine blk_drew ?_ | refine blk_alloc ?_ _)); refine blk_put (cs := #[.int .u32 t3, .int .i64 t4, .slice Ao10 t5.length co10, .slice Ao11 t8.length co11, .int .u32 a1_4, .int .u32 a1_5, .int .i64 a1_6, .int .u32 a1_7]) ?_ 4 _ rfl; (with_reducible repeat (first | refine blk_drewN ?_ _ | refine blk_drew ?_ | refine blk_alloc ?_ _)); refine blk_put (cs := #[.int .u32 t3, .int .i64 t4, .slice Ao10 t5.length co10, .slice A1_3 l1_3.length c1_3, .int .u32 a1_4, .int .u32 a1_5, .int .i64 a1_6, .int .u32 a1_7]) ?_ 3 _ rfl; (with_reducible repeat (first | refine blk_drewN ?_ _ | refine blk_drew ?_ | refine blk_alloc ?_ _)); refine blk_put (cs := #[.int .u32 t3, .int .i64 t4, .slice A1_2 l1_2.length c1_2, .slice A1_3 l1_3.length c1_3, .int .u32 a1_4, .int .u32 a1_5, .int .i64 a1_6, .int .u32 a1_7]) ?_ 2 _ rfl; (with_reducible repeat (first | refine blk_drewN ?_ _ | refine blk_drew ?_ | refine blk_alloc ?_ _)); refine blk_put (cs := #[.int .u32 t3, .int .i64 a1_1, .slice A1_2 l1_2.length c1_2, .slice A1_3 l1_3.length c1_3, .int .u32 a1_4, .int .u32 a1_5, .int .i64 a1_6, .int .u32 a1_7]) ?_ 1 _ rfl; (with_reducible repeat (first | refine blk_drewN ?_ _ | refine blk_drew ?_ | refine blk_alloc ?_ _)); refine blk_put (cs := #[.int .u32 a1_0, .int .i64 a1_1, .slice A1_2 l1_2.length c1_2, .slice A1_3 l1_3.length c1_3, .int .u32 a1_4, .int .u32 a1_5, .int .i64 a1_6, .int .u32 a1_7]) ?_ 0 _ rfl; (with_reducible repeat (first | refine blk_drewN ?_ _ | refine blk_drew ?_ | refine blk_alloc ?_ _)); exact BK1.out⟩, ⟨by (with_reducible repeat (first | refine blk_drewN ?_ _ | refine blk_drew ?_ | refine blk_alloc ?_ _)); refine blk_far ?_ NB2_1.out _; (with_reducible repeat (first | refine blk_drewN ?_ _ | refine blk_drew ?_ | refine blk_alloc ?_ _)); refine blk_far ?_ NB2_1.out _; (with_reducible repeat (first | refine blk_drewN ?_ _ | refine blk_drew ?_ | refine blk_alloc ?_ _)); refine blk_far ?_ NB2_1.out _; (with_reducible repeat (first | refine blk_drewN ?_ _ | refine blk_drew ?_ | refine blk_alloc ?_ _)); refine blk_far ?_ NB2_1.out _; (with_reducible repeat (first | refine blk_drewN ?_ _ | refine blk_drew ?_ | refine blk_alloc ?_ _)); refine blk_far ?_ NB2_1.out _; (with_reducible repeat (first | refine blk_drewN ?_ _ | refine blk_drew ?_ | refine blk_alloc ?_ _)); refine blk_far ?_ NB2_1.out _; (with_reducible repeat (first | refine blk_drewN ?_ _ | refine blk_drew ?_ | refine blk_alloc ?_ _)); refine blk_far ?_ NB2_1.out _; (with_reducible repeat (first | refine blk_drewN ?_ _ | refine blk_drew ?_ | refine blk_alloc ?_ _)); refine blk_far ?_ NB2_1.out _; (with_reducible repeat (first | refine blk_drewN ?_ _ | refine blk_drew ?_ | refine blk_alloc ?_ _)); exact BK2.out⟩, ⟨hbW HB⟩⟩
 case round =>
  clear H'
  try clear c1
  try clear c2
  try clear p2
  try clear c6
  try clear hcz7_0 hcz7_1 hcz7_2 hcz7_3 hcz7_4 hcz7_5 hcz7_6 hcz7_7
  try clear hcz9_0 hcz9_1 hcz9_2 hcz9_3 hcz9_4 hcz9_5 hcz9_6 hcz9_7
  try clear hfz7_0 hfz7_1 hfz7_2 hfz7_3 hfz7_4 hfz7_5 hfz7_6 hfz7_7
  try clear hfz9_0 hfz9_1 hfz9_2 hfz9_3 hfz9_4 hfz9_5 hfz9_6 hfz9_7
  obtain ⟨x11_1, x2000_1, x2001_1, x2002_1, x2003_1, x2004_1, x2005_1, x2006_1, x2007_1, u2002, u2003, rfl, HA, HK1, HO_2002, HO_2003, BK1, BK2, HB⟩ := hrel
  cases gk with
  | zero => exact absurd HA.out (by simp [q30z.l0])
  | succ k1 =>
   have H := HA.out
   clear HA
   simp only [q30z.l0] at H
   by_cases c12 : x11_1 < (l0.length : Int)
   ·
    rw [if_pos c12] at H
    have c12b0 : decide (x11_1 < (l0.length : Int)) = true := decide_eq_true c12
    clear c12
    by_cases c13 : 0 ≤ x11_1
    ·
     rw [if_pos c13] at H
     have c13b0 : decide (0 ≤ x11_1) = true := decide_eq_true c13
     clear c13
     by_cases c14 : x11_1 < (l0.length : Int)
     ·
      rw [if_pos c14] at H
      have c14b0 : decide (x11_1 < (l0.length : Int)) = true := decide_eq_true c14
      clear c14
      replace H := Option.bind_eq_some_iff.mp H
      obtain ⟨⟨t17, t18, t19, t22, t25, t26, t27, t28⟩, A150, H⟩ := H
      replace H : (q30z.l0 k1 l0 (l0.length : Int) (wrap64 (x11_1 + 1)) t17 t18 t19 t22 t25 t26 t27 t28) = some (r1, r2, r3, r4, r5, r6, r7, r8) := H
      have A15 := Aside0.mk A150
      clear A150
      have H' := Aside0.mk H
      clear H
      have p15 : 0 ≤ (x11_1 : Int) := of_decide_eq_true (by first | (with_reducible assumption) | assumption)
      have q15 : x11_1 < (l0.length : Int) := of_decide_eq_true (by first | (with_reducible assumption) | assumption)
      obtain ⟨ad15, A15_2, c15_2, A15_3, c15_3, e15, hx15_0, hx15_1, hx15_2, hx15_3, hl15_2, hi15_2, hl15_3, hi15_3⟩ := at_T26 HR0.out x11_1 p15 q15
      cases e15
      replace hx15_0 := (HB.out.cell (World.block_lt_of_cell? w _ hx15_0)).trans hx15_0
      replace hx15_1 := (HB.out.cell (World.block_lt_of_cell? w _ hx15_1)).trans hx15_1
      replace hx15_2 := (HB.out.cell (World.block_lt_of_cell? w _ hx15_2)).trans hx15_2
      replace hx15_3 := (HB.out.cell (World.block_lt_of_cell? w _ hx15_3)).trans hx15_3
      have HR15_2 := Aside0.mk hi15_2
      have HC15_2 := Aside0.mk hl15_2
      clear hi15_2 hl15_2
      have HR15_3 := Aside0.mk hi15_3
      have HC15_3 := Aside0.mk hl15_3
      clear hi15_3 hl15_3
      replace p15 := eq_true p15
      replace q15 := eq_true q15
      go_wp2_with (first | ((with_reducible refine gate_dst (N := 6) rfl ?_); refine box_event ?hg (N := 6) ?hd (cs := #[.int .i64 0, .int .u32 0, .slice none 0 0, .slice none 0 0]) (t := 26) ?hr ?_; (case hd => rfl); (case hg => rfl); (case hr => first | (go_simp; done) | (go_simp; rfl)); intro gb16 hg w16 hbox hb; have BK16 := Aside0.mk (hbox); have GW16 := gwS hg HB; have GE16 := gwS hg HB; have NB1_16 := nbL hg BK1; have NB16_1 := nbG hg BK1; have NB2_16 := nbL hg BK2; have NB16_2 := nbG hg BK2; replace HO_2002 := Aside0.mk (Kd.R_below (rW HO_2002) hb); replace HO_2003 := Aside0.mk (Kd.R_below (rW HO_2003) hb); replace BK1 := bkB BK1 hb; replace BK2 := bkB BK2 hb; replace HB := hbS HB hb; clear hb hbox hg; have hnb17 := NB16_1.out; have hnc17 := NB1_16.out; have hnb18 := NB16_2.out; have hnc18 := NB2_16.out; obtain ⟨hcz19_0, hcz19_1, hcz19_2, hcz19_3, hfz19_0, hfz19_1, hfz19_2, hfz19_3⟩ := bc4 BK16) | ((with_reducible refine gate_store (t := 26) (p := 6) rfl ?_); refine store_event (t := 26) (p := 6) (v := ?vo_w20) (w1 := ((((w16.setCell ⟨gb16, 0, none⟩ (.int .i64 ((rd_T26 l0 x11_1).f0))).setCell ⟨gb16, 1, none⟩ (.int .u32 ((rd_T26 l0 x11_1).f1))).setCell ⟨gb16, 2, none⟩ (.slice A15_2 ((rd_T26 l0 x11_1).f2).length c15_2)).setCell ⟨gb16, 3, none⟩ (.slice A15_3 ((rd_T26 l0 x11_1).f3).length c15_3))) ?hg ?ho ?hn ?hr ?_; (case ho => rfl); (case hg => rfl); (case hn => rfl); (case hr => first | (go_simp; done) | (go_simp; rfl)); intro w20 hw; have n0_ : Aside0 (Kd.R (Kd.int .u32) 22 w20 w.heap.size (fun k_ => some k_ ≠ (u2003 : Value).ownBlock) u2002 x2002_1) := ⟨(by rw [hw]; exact (rW HO_2002))⟩; have n1_ : Aside0 (Kd.R (Kd.int .u32) 22 w20 w.heap.size (fun k_ => some k_ ≠ (u2002 : Value).ownBlock) u2003 x2003_1) := ⟨(by rw [hw]; exact (rW HO_2003))⟩; have n2_ : Aside0 (w20.heap[gb1]? = some (.cells #[.int .u32 x2000_1, .int .i64 x2001_1, u2002, u2003, .int .u32 x2004_1, .int .u32 x2005_1, .int .i64 x2006_1, .int .u32 x2007_1] 30 (0, 0))) := ⟨(by rw [hw]; exact (bkV BK1))⟩; have n3_ : Aside0 (w20.heap[gb2]? = some (.cells #[.int .u32 0, .int .i64 0, .slice none 0 0, .slice none 0 0, .int .u32 0, .int .u32 0, .int .i64 0, .int .u32 0] 30 (0, 0))) := ⟨(by rw [hw]; exact (bkV BK2))⟩; have n4_ : Aside0 (w20.heap[gb16]? = some (.cells #[.int .i64 ((rd_T26 l0 x11_1).f0), .int .u32 ((rd_T26 l0 x11_1).f1), .slice A15_2 ((rd_T26 l0 x11_1).f2).length c15_2, .slice A15_3 ((rd_T26 l0 x11_1).f3).length c15_3] 26 (0, 0))) := ⟨(by rw [hw]; exact (bp4 BK16))⟩; have n5_ : Aside0 (Below w.heap.size w w20) := ⟨(by rw [hw]; exact (hbW HB))⟩; clear hw; clear HO_2002; clear HO_2003; clear BK1; clear BK2; clear BK16; clear HB; have HO_2002 := n0_; have HO_2003 := n1_; have BK1 := n2_; have BK2 := n3_; have BK16 := n4_; have HB := n5_; clear n0_ n1_ n2_ n3_ n4_ n5_; obtain ⟨hcz21_0, hcz21_1, hcz21_2, hcz21_3, hfz21_0, hfz21_1, hfz21_2, hfz21_3⟩ := bc4 BK16; have hnb22 := NB1_2.out; have hnc22 := NB2_1.out; obtain ⟨hcz23_0, hcz23_1, hcz23_2, hcz23_3, hcz23_4, hcz23_5, hcz23_6, hcz23_7, hfz23_0, hfz23_1, hfz23_2, hfz23_3, hfz23_4, hfz23_5, hfz23_6, hfz23_7⟩ := bc8 BK1; obtain ⟨Ao24, co24, eo24⟩ := Kd.R_slice HO_2002.out; subst eo24; obtain ⟨Ao25, co25, eo25⟩ := Kd.R_slice HO_2003.out; subst eo25) | ((with_reducible refine gate_callee (f := 13) rfl ?_); refine goesL_ (some 17) rfl rfl Try.func13 (by kernel_rfl) rfl #[.agg #[.int .i64 ((rd_T26 l0 x11_1).f0), .int .u32 ((rd_T26 l0 x11_1).f1), .slice A15_2 ((rd_T26 l0 x11_1).f2).length c15_2, .slice A15_3 ((rd_T26 l0 x11_1).f3).length c15_3], .agg #[.int .u32 x2000_1, .int .i64 x2001_1, .slice Ao24 x2002_1.length co24, .slice Ao25 x2003_1.length co25, .int .u32 x2004_1, .int .u32 x2005_1, .int .i64 x2006_1, .int .u32 x2007_1]] rfl (by (try simp only [List.map_toArray, List.map_cons, List.map_nil]); first | done | rfl | (simp only [List.length_drop, List.length_take]; rfl)) ?_; (with_reducible refine (q11z.calls k1 ((rd_T26 l0 x11_1).f0) ((rd_T26 l0 x11_1).f1) (fun k_ => k_ < w.heap.size) _ _ ((rd_T26 l0 x11_1).f2) _ _ ((rd_T26 l0 x11_1).f3) x2000_1 x2001_1 _ _ x2002_1 _ _ x2003_1 x2004_1 x2005_1 x2006_1 x2007_1 t17 t18 t19 t22 t25 t26 t27 t28 _ ?side1 ?side2 ?side3 ?side4 ?side5 ?side6 ?side7 A15.out).mono ?_); (case side1 => exact Kd.V_mk HC15_2.out (Kd.F_below (Kd.C_F (Kd.heap_int .u32) HR15_2.out) (hbW HB))); (case side2 => repeat (first | exact (Kd.C_below HR15_3.out HB.out) | (with_reducible refine Kd.C_alloc ?_ _) | (with_reducible refine Kd.C_drewN ?_ _) | (with_reducible refine Kd.C_drew ?_))); (case side3 => exact HC15_3.out); (case side4 => repeat (first | exact (Kd.R_reads' HO_2002.out).2.2 | (with_reducible refine Kd.C_alloc ?_ _) | (with_reducible refine Kd.C_drewN ?_ _) | (with_reducible refine Kd.C_drew ?_))); (case side5 => exact (Kd.R_reads' HO_2002.out).2.1); (case side6 => repeat (first | exact (Kd.R_reads' HO_2003.out).2.2 | (with_reducible refine Kd.C_alloc ?_ _) | (with_reducible refine Kd.C_drewN ?_ _) | (with_reducible refine Kd.C_drew ?_))); (case side7 => exact (Kd.R_reads' HO_2003.out).2.1); rintro e w26 ⟨v20, v23, rfl, ho0, ho1, hb⟩; refine ⟨_, rfl, ?_⟩; have HO21 := Aside0.mk (Kd.R_lower (Kd.R_new' (Kd.R_new' (Kd.R_mono (ok' := fun k_ => some k_ ≠ (v23 : Value).ownBlock) ho0 (fun _ hk_ => hk_.2)) (Kd.R_lt (rW HO_2002))) (Kd.R_lt (rW HO_2003))) (below_size (hbW HB))); have HO24 := Aside0.mk (Kd.R_lower (Kd.R_new' (Kd.R_new' (Kd.R_mono (ok' := fun k_ => some k_ ≠ (v20 : Value).ownBlock) ho1 (fun _ hk_ => hk_.2)) (Kd.R_lt (rW HO_2002))) (Kd.R_lt (rW HO_2003))) (below_size (hbW HB))); replace HO_2002 := Aside0.mk (Kd.R_mono (Kd.R_told (Kd.R_told (Kd.R_old (rW HO_2002) hb) (Kd.R_base ho0)) (Kd.R_base ho1)) (fun _ h_ => h_.1)); replace HO_2003 := Aside0.mk (Kd.R_mono (Kd.R_told (Kd.R_told (Kd.R_old (rW HO_2003) hb) (Kd.R_base ho0)) (Kd.R_base ho1)) (fun _ h_ => h_.1)); replace BK1 := bkB BK1 hb; replace BK2 := bkB BK2 hb; replace BK16 := bkB BK16 hb; replace HB := hbS HB hb; (try clear hb); (try clear ho0); (try clear ho1); obtain ⟨hcz27_0, hcz27_1, hcz27_2, hcz27_3, hcz27_4, hcz27_5, hcz27_6, hcz27_7, hfz27_0, hfz27_1, hfz27_2, hfz27_3, hfz27_4, hfz27_5, hfz27_6, hfz27_7⟩ := bc8 BK1; obtain ⟨Ao28, co28, eo28⟩ := Kd.R_slice HO21.out; subst eo28; obtain ⟨Ao29, co29, eo29⟩ := Kd.R_slice HO24.out; subst eo29))
      go_roundg k1
      case measure => have := HK1.out; omega
      case rel => exact ⟨(wrap64 (x11_1 + 1)), (t17), (t18), (t19), (t22), (t25), (t26), (t27), (t28), (.slice Ao28 t19.length co28), (.slice Ao29 t22.length co29), (by first | rfl | (simp; done) | (simp [*]; done)), H', ⟨by have := HK1.out; omega⟩, ⟨moR (rW HO21)⟩, ⟨moR (rW HO24)⟩, ⟨by (with_reducible repeat (first | refine blk_drewN ?_ _ | refine blk_drew ?_ | refine blk_alloc ?_ _)); refine blk_put (cs := #[.int .u32 t17, .int .i64 t18, .slice Ao28 t19.length co28, .slice Ao29 t22.length co29, .int .u32 t25, .int .u32 t26, .int .i64 t27, .int .u32 x2007_1]) ?_ 7 _ rfl; (with_reducible repeat (first | refine blk_drewN ?_ _ | refine blk_drew ?_ | refine blk_alloc ?_ _)); refine blk_put (cs := #[.int .u32 t17, .int .i64 t18, .slice Ao28 t19.length co28, .slice Ao29 t22.length co29, .int .u32 t25, .int .u32 t26, .int .i64 x2006_1, .int .u32 x2007_1]) ?_ 6 _ rfl; (with_reducible repeat (first | refine blk_drewN ?_ _ | refine blk_drew ?_ | refine blk_alloc ?_ _)); refine blk_put (cs := #[.int .u32 t17, .int .i64 t18, .slice Ao28 t19.length co28, .slice Ao29 t22.length co29, .int .u32 t25, .int .u32 x2005_1, .int .i64 x2006_1, .int .u32 x2007_1]) ?_ 5 _ rfl; (with_reducible repeat (first | refine blk_drewN ?_ _ | refine blk_drew ?_ | refine blk_alloc ?_ _)); refine blk_put (cs := #[.int .u32 t17, .int .i64 t18, .slice Ao28 t19.length co28, .slice Ao29 t22.length co29, .int .u32 x2004_1, .int .u32 x2005_1, .int .i64 x2006_1, .int .u32 x2007_1]) ?_ 4 _ rfl; (with_reducible repeat (first | refine blk_drewN ?_ _ | refine blk_drew ?_ | refine blk_alloc ?_ _)); refine blk_put (cs := #[.int .u32 t17, .int .i64 t18, .slice Ao28 t19.length co28, .slice Ao25 x2003_1.length co25, .int .u32 x2004_1, .int .u32 x2005_1, .int .i64 x2006_1, .int .u32 x2007_1]) ?_ 3 _ rfl; (with_reducible repeat (first | refine blk_drewN ?_ _ | refine blk_drew ?_ | refine blk_alloc ?_ _)); refine blk_put (cs := #[.int .u32 t17, .int .i64 t18, .slice Ao24 x2002_1.length co24, .slice Ao25 x2003_1.length co25, .int .u32 x2004_1, .int .u32 x2005_1, .int .i64 x2006_1, .int .u32 x2007_1]) ?_ 2 _ rfl; (with_reducible repeat (first | refine blk_drewN ?_ _ | refine blk_drew ?_ | refine blk_alloc ?_ _)); refine blk_put (cs := #[.int .u32 t17, .int .i64 x2001_1, .slice Ao24 x2002_1.length co24, .slice Ao25 x2003_1.length co25, .int .u32 x2004_1, .int .u32 x2005_1, .int .i64 x2006_1, .int .u32 x2007_1]) ?_ 1 _ rfl; (with_reducible repeat (first | refine blk_drewN ?_ _ | refine blk_drew ?_ | refine blk_alloc ?_ _)); refine blk_put (cs := #[.int .u32 x2000_1, .int .i64 x2001_1, .slice Ao24 x2002_1.length co24, .slice Ao25 x2003_1.length co25, .int .u32 x2004_1, .int .u32 x2005_1, .int .i64 x2006_1, .int .u32 x2007_1]) ?_ 0 _ rfl; (with_reducible repeat (first | refine blk_drewN ?_ _ | refine blk_drew ?_ | refine blk_alloc ?_ _)); exact BK1.out⟩, ⟨by (with_reducible repeat (first | refine blk_drewN ?_ _ | refine blk_drew ?_ | refine blk_alloc ?_ _)); refine blk_far ?_ NB2_1.out _; (with_reducible repeat (first | refine blk_drewN ?_ _ | refine blk_drew ?_ | refine blk_alloc ?_ _)); refine blk_far ?_ NB2_1.out _; (with_reducible repeat (first | refine blk_drewN ?_ _ | refine blk_drew ?_ | refine blk_alloc ?_ _)); refine blk_far ?_ NB2_1.out _; (with_reducible repeat (first | refine blk_drewN ?_ _ | refine blk_drew ?_ | refine blk_alloc ?_ _)); refine blk_far ?_ NB2_1.out _; (with_reducible repeat (first | refine blk_drewN ?_ _ | refine blk_drew ?_ | refine blk_alloc ?_ _)); refine blk_far ?_ NB2_1.out _; (with_reducible repeat (first | refine blk_drewN ?_ _ | refine blk_drew ?_ | refine blk_alloc ?_ _)); refine blk_far ?_ NB2_1.out _; (with_reducible repeat (first | refine blk_drewN ?_ _ | refine blk_drew ?_ | refine blk_alloc ?_ _)); refine blk_far ?_ NB2_1.out _; (with_reducible repeat (first | refine blk_drewN ?_ _ | refine blk_drew ?_ | refine blk_alloc ?_ _)); refine blk_far ?_ NB2_1.out _; (with_reducible repeat (first | refine blk_drewN ?_ _ | refine blk_drew ?_ | refine blk_alloc ?_ _)); exact BK2.out⟩, ⟨hbW HB⟩⟩
     ·
      rw [if_neg c14] at H
      exact absurd H (by simp)
    ·
     rw [if_neg c13] at H
     exact absurd H (by simp)
   ·
    rw [if_neg c12] at H
    have c12b0 : decide (x11_1 < (l0.length : Int)) = false := decide_eq_false c12
    clear c12
    simp only [Option.some.injEq, Prod.mk.injEq] at H
    obtain ⟨rfl, rfl, rfl, rfl, rfl, rfl, rfl, rfl⟩ := H
    have hnb30 := NB1_2.out
    have hnc30 := NB2_1.out
    obtain ⟨hcz31_0, hcz31_1, hcz31_2, hcz31_3, hcz31_4, hcz31_5, hcz31_6, hcz31_7, hfz31_0, hfz31_1, hfz31_2, hfz31_3, hfz31_4, hfz31_5, hfz31_6, hfz31_7⟩ := bc8 BK1
    obtain ⟨hcz32_0, hcz32_1, hcz32_2, hcz32_3, hcz32_4, hcz32_5, hcz32_6, hcz32_7, hfz32_0, hfz32_1, hfz32_2, hfz32_3, hfz32_4, hfz32_5, hfz32_6, hfz32_7⟩ := bc8 BK2
    obtain ⟨Ao33, co33, eo33⟩ := Kd.R_slice HO_2002.out
    subst eo33
    obtain ⟨Ao34, co34, eo34⟩ := Kd.R_slice HO_2003.out
    subst eo34
    go_wp2
    refine bodyPost_ret (results_cell_row rfl _ _ gb2 30 #[.int .u32 x2000_1, .int .i64 x2001_1, .slice Ao33 x2002_1.length co33, .slice Ao34 x2003_1.length co34, .int .u32 x2004_1, .int .u32 x2005_1, .int .i64 x2006_1, .int .u32 x2007_1] (0, 0) _ rfl (bp8 BK2) Try.underlying30 rfl (by kernel_rfl)) rfl ?_
    exact ⟨_, _, by first | rfl | (simp [errW_none, errW_some] <;> rfl) | (simp [*, errW_none, errW_some] <;> rfl), moR (rW HO_2002), moR (rW HO_2003), hbW HB⟩

/-! ### dragomanref12_All: function 23 -/
def q31z.l0 : Nat → List (S26) → Int → Int → Int → Int → List Int → List Int → Int → Int → Int → Int → Option (Int × Int × List Int × List Int × Int × Int × Int × Int)
 | 0, _, _, _, _, _, _, _, _, _, _, _ => none
 | k + 1, x9, x10, x11, x2000, x2001, x2002, x2003, x2004, x2005, x2006, x2007 => if x11 < x10 then (if 0 ≤ x11 then (if x11 < (x9.length : Int) then ((q21z.f k ((rd_T26 x9 x11).f0) ((rd_T26 x9 x11).f1) ((rd_T26 x9 x11).f2) ((rd_T26 x9 x11).f3) x2000 x2001 x2002 x2003 x2004 x2005 x2006 x2007).bind fun bt17 => (q31z.l0 k x9 x10 (wrap64 (x11 + 1)) bt17.1 bt17.2.1 bt17.2.2.1 bt17.2.2.2.1 bt17.2.2.2.2.1 bt17.2.2.2.2.2.1 bt17.2.2.2.2.2.2.1 bt17.2.2.2.2.2.2.2)) else (none)) else (none)) else (some (x2000, x2001, x2002, x2003, x2004, x2005, x2006, x2007))
def q31z.f (k : Nat) (l0 : List (S26)) (a1_0 : Int) (a1_1 : Int) (l1_2 : List Int) (l1_3 : List Int) (a1_4 : Int) (a1_5 : Int) (a1_6 : Int) (a1_7 : Int) : Option (Int × Int × List Int × List Int × Int × Int × Int × Int) := (q4z.f a1_0 a1_1 l1_2 l1_3 a1_4 a1_5 a1_6 a1_7).bind fun bt3 => (q31z.l0 k l0 (l0.length : Int) 0 bt3.1 bt3.2.1 bt3.2.2.1 bt3.2.2.2.1 bt3.2.2.2.2.1 bt3.2.2.2.2.2.1 bt3.2.2.2.2.2.2.1 bt3.2.2.2.2.2.2.2)
theorem q31z.mono_l : ∀ k, (∀ y0 y1 y2 y3 y4 y5 y6 y7 y8 y9 y10, LeO (q31z.l0 k y0 y1 y2 y3 y4 y5 y6 y7 y8 y9 y10) (q31z.l0 (k + 1) y0 y1 y2 y3 y4 y5 y6 y7 y8 y9 y10))
 | 0 => fun _ _ _ _ _ _ _ _ _ _ _ r h => by simp [q31z.l0] at h
 | k + 1 => by
  have ih0 := q31z.mono_l k
  ·
   intro y0 y1 y2 y3 y4 y5 y6 y7 y8 y9 y10
   unfold q31z.l0
   repeat' first
   | (with_reducible exact ih0 _ _ _ _ _ _ _ _ _ _ _)
   | (with_reducible exact q21z.mono _ _ _ _ _ _ _ _ _ _ _ _ _)
   | (with_reducible exact LeO.refl _)
   | (with_reducible exact LeO.none _)
   | (with_reducible refine LeO.ite ?_ ?_)
   | (with_reducible refine LeO.bind ?_ (fun _ => ?_))
   | exact ih0 _ _ _ _ _ _ _ _ _ _ _
   | exact q21z.mono _ _ _ _ _ _ _ _ _ _ _ _ _
   | exact LeO.none _
   | refine LeO.ite ?_ ?_
   | refine LeO.bind ?_ (fun _ => ?_)
theorem q31z.mono : ∀ a0 a1 a2 a3 a4 a5 a6 a7 a8 k, LeO (q31z.f k a0 a1 a2 a3 a4 a5 a6 a7 a8) (q31z.f (k + 1) a0 a1 a2 a3 a4 a5 a6 a7 a8) := by
 intro a0 a1 a2 a3 a4 a5 a6 a7 a8 k
 have ih0 := q31z.mono_l k
 unfold q31z.f
 repeat' first
   | (with_reducible exact ih0 _ _ _ _ _ _ _ _ _ _ _)
   | (with_reducible exact q21z.mono _ _ _ _ _ _ _ _ _ _ _ _ _)
   | (with_reducible exact LeO.refl _)
   | (with_reducible exact LeO.none _)
   | (with_reducible refine LeO.ite ?_ ?_)
   | (with_reducible refine LeO.bind ?_ (fun _ => ?_))
   | exact ih0 _ _ _ _ _ _ _ _ _ _ _
   | exact q21z.mono _ _ _ _ _ _ _ _ _ _ _ _ _
   | exact LeO.none _
   | refine LeO.ite ?_ ?_
   | refine LeO.bind ?_ (fun _ => ?_)
set_option maxHeartbeats 8000000 in
set_option maxRecDepth 100000 in
theorem q31z.calls (k : Nat) (A0 : Option Addr) (c0 : Nat) (l0 : List (S26)) (a1_0 : Int) (a1_1 : Int) (A1_2 : Option Addr) (c1_2 : Nat) (l1_2 : List Int) (A1_3 : Option Addr) (c1_3 : Nat) (l1_3 : List Int) (a1_4 : Int) (a1_5 : Int) (a1_6 : Int) (a1_7 : Int) (r1 : Int) (r2 : Int) (r3 : List Int) (r4 : List Int) (r5 : Int) (r6 : Int) (r7 : Int) (r8 : Int) (w : World) (hr0 : Kd.C k26 w A0 l0.length l0) (hc0 : l0.length ≤ c0) (hr1_2 : Kd.C (Kd.int .u32) w A1_2 l1_2.length l1_2) (hc1_2 : l1_2.length ≤ c1_2) (hr1_3 : Kd.C (Kd.int .u32) w A1_3 l1_3.length l1_3) (hc1_3 : l1_3.length ≤ c1_3) (h : q31z.f k l0 a1_0 a1_1 l1_2 l1_3 a1_4 a1_5 a1_6 a1_7 = some (r1, r2, r3, r4, r5, r6, r7, r8)) :
  Calls Try.prog 23 #[.slice A0 l0.length c0, .agg #[.int .u32 a1_0, .int .i64 a1_1, .slice A1_2 l1_2.length c1_2, .slice A1_3 l1_3.length c1_3, .int .u32 a1_4, .int .u32 a1_5, .int .i64 a1_6, .int .u32 a1_7]] w fun e w' => ∃ v2_ v3_ : Value, e = .returned (.agg #[.int .u32 r1, .int .i64 r2, v2_, v3_, .int .u32 r5, .int .u32 r6, .int .i64 r7, .int .u32 r8]) ∧ Kd.R (Kd.int .u32) 22 w' w.heap.size (fun k_ => some k_ ≠ (v3_ : Value).ownBlock) v2_ r3 ∧ Kd.R (Kd.int .u32) 22 w' w.heap.size (fun k_ => some k_ ≠ (v2_ : Value).ownBlock) v3_ r4 ∧ Below w.heap.size w w' := by
 have hu30 := Try.underlying30
 have hu26 := Try.underlying26
 have HR0 := Aside0.mk hr0
 have HC0 := Aside0.mk hc0
 clear hr0 hc0
 have HR1_2 := Aside0.mk hr1_2
 have HC1_2 := Aside0.mk hc1_2
 clear hr1_2 hc1_2
 have HR1_3 := Aside0.mk hr1_3
 have HC1_3 := Aside0.mk hc1_3
 clear hr1_3 hc1_3
 have HB := Aside0.mk (Below.refl w.heap.size w)
 have H : ((q4z.f a1_0 a1_1 l1_2 l1_3 a1_4 a1_5 a1_6 a1_7).bind fun bt3 => (q31z.l0 k l0 (l0.length : Int) 0 bt3.1 bt3.2.1 bt3.2.2.1 bt3.2.2.2.1 bt3.2.2.2.2.1 bt3.2.2.2.2.2.1 bt3.2.2.2.2.2.2.1 bt3.2.2.2.2.2.2.2)) = some (r1, r2, r3, r4, r5, r6, r7, r8) := h
 clear h
 replace H := Option.bind_eq_some_iff.mp H
 obtain ⟨⟨t3, t4, t5, t8, t11, t12, t13, t14⟩, A30, H⟩ := H
 replace H : (q31z.l0 k l0 (l0.length : Int) 0 t3 t4 t5 t8 t11 t12 t13 t14) = some (r1, r2, r3, r4, r5, r6, r7, r8) := H
 have A3 := Aside0.mk A30
 clear A30
 have H' := Aside0.mk H
 clear H
 go_enter Try.func23, Try.ntmps23
 go_wp2_with (first | ((with_reducible refine gate_dst (N := 3) rfl ?_); refine box_event ?hg (N := 3) ?hd (cs := #[.int .u32 a1_0, .int .i64 a1_1, .slice A1_2 l1_2.length c1_2, .slice A1_3 l1_3.length c1_3, .int .u32 a1_4, .int .u32 a1_5, .int .i64 a1_6, .int .u32 a1_7]) (t := 30) ?hr ?_; (case hd => rfl); (case hg => rfl); (case hr => first | (go_simp; done) | (go_simp; rfl)); intro gb1 hg w4 hbox hb; have BK1 := Aside0.mk (hbox); have GW1 := gwS hg HB; have GE1 := gwS hg HB; replace HB := hbS HB hb; clear hb hbox hg) | ((with_reducible refine gate_dst (N := 4) rfl ?_); refine box_event ?hg (N := 4) ?hd (cs := #[.int .u32 0, .int .i64 0, .slice none 0 0, .slice none 0 0, .int .u32 0, .int .u32 0, .int .i64 0, .int .u32 0]) (t := 30) ?hr ?_; (case hd => rfl); (case hg => rfl); (case hr => first | (go_simp; done) | (go_simp; rfl)); intro gb2 hg w5 hbox hb; have BK2 := Aside0.mk (hbox); have GW2 := gwS hg HB; have GE2 := gwS hg HB; have NB1_2 := nbL hg BK1; have NB2_1 := nbG hg BK1; replace BK1 := bkB BK1 hb; replace HB := hbS HB hb; clear hb hbox hg; have hnb6 := NB1_2.out; have hnc6 := NB2_1.out; obtain ⟨hcz7_0, hcz7_1, hcz7_2, hcz7_3, hcz7_4, hcz7_5, hcz7_6, hcz7_7, hfz7_0, hfz7_1, hfz7_2, hfz7_3, hfz7_4, hfz7_5, hfz7_6, hfz7_7⟩ := bc8 BK1) | ((with_reducible refine gate_callee (f := 12) rfl ?_); refine goesL_ (some 8) rfl rfl Try.func12 (by kernel_rfl) rfl #[.agg #[.int .u32 a1_0, .int .i64 a1_1, .slice A1_2 l1_2.length c1_2, .slice A1_3 l1_3.length c1_3, .int .u32 a1_4, .int .u32 a1_5, .int .i64 a1_6, .int .u32 a1_7]] rfl (by (try simp only [List.map_toArray, List.map_cons, List.map_nil]); first | done | rfl | (simp only [List.length_drop, List.length_take]; rfl)) ?_; (with_reducible refine (q4z.calls a1_0 a1_1 _ _ l1_2 _ _ l1_3 a1_4 a1_5 a1_6 a1_7 t3 t4 t5 t8 t11 t12 t13 t14 _ ?side1 ?side2 ?side3 ?side4 A3.out).mono ?_); (case side1 => repeat (first | exact (Kd.C_below HR1_2.out HB.out) | (with_reducible refine Kd.C_alloc ?_ _) | (with_reducible refine Kd.C_drewN ?_ _) | (with_reducible refine Kd.C_drew ?_))); (case side2 => exact HC1_2.out); (case side3 => repeat (first | exact (Kd.C_below HR1_3.out HB.out) | (with_reducible refine Kd.C_alloc ?_ _) | (with_reducible refine Kd.C_drewN ?_ _) | (with_reducible refine Kd.C_drew ?_))); (case side4 => exact HC1_3.out); rintro e w8 ⟨v6, v9, rfl, ho0, ho1, hb⟩; refine ⟨_, rfl, ?_⟩; have HO7 := Aside0.mk (Kd.R_lower ho0 (below_size (hbW HB))); have HO10 := Aside0.mk (Kd.R_lower ho1 (below_size (hbW HB))); replace BK1 := bkB BK1 hb; replace BK2 := bkB BK2 hb; replace HB := hbS HB hb; (try clear hb); (try clear ho0); (try clear ho1); obtain ⟨hcz9_0, hcz9_1, hcz9_2, hcz9_3, hcz9_4, hcz9_5, hcz9_6, hcz9_7, hfz9_0, hfz9_1, hfz9_2, hfz9_3, hfz9_4, hfz9_5, hfz9_6, hfz9_7⟩ := bc8 BK1; obtain ⟨Ao10, co10, eo10⟩ := Kd.R_slice HO7.out; subst eo10; obtain ⟨Ao11, co11, eo11⟩ := Kd.R_slice HO10.out; subst eo11))
 go_loopg [11] k (fun kq v11 w' => ∃ (x11_1 : Int) (x2000_1 : Int) (x2001_1 : Int) (x2002_1 : List Int) (x2003_1 : List Int) (x2004_1 : Int) (x2005_1 : Int) (x2006_1 : Int) (x2007_1 : Int) (u2002 : Value) (u2003 : Value), v11 = .int .i64 x11_1 ∧ Aside0 (q31z.l0 kq l0 (l0.length : Int) x11_1 x2000_1 x2001_1 x2002_1 x2003_1 x2004_1 x2005_1 x2006_1 x2007_1 = some (r1, r2, r3, r4, r5, r6, r7, r8)) ∧ Aside0 (kq ≤ k) ∧ Aside0 (Kd.R (Kd.int .u32) 22 w' w.heap.size (fun k_ => some k_ ≠ (u2003 : Value).ownBlock) u2002 x2002_1) ∧ Aside0 (Kd.R (Kd.int .u32) 22 w' w.heap.size (fun k_ => some k_ ≠ (u2002 : Value).ownBlock) u2003 x2003_1) ∧ Aside0 (w'.heap[gb1]? = some (.cells #[.int .u32 x2000_1, .int .i64 x2001_1, u2002, u2003, .int .u32 x2004_1, .int .u32 x2005_1, .int .i64 x2006_1, .int .u32 x2007_1] 30 (0, 0))) ∧ Aside0 (w'.heap[gb2]? = some (.cells #[.int .u32 0, .int .i64 0, (.slice none 0 0), (.slice none 0 0), .int .u32 0, .int .u32 0, .int .i64 0, .int .u32 0] 30 (0, 0))) ∧ Aside0 (Below w.heap.size w w'))
 case atStart => exact ⟨(0), (t3), (t4), (t5), (t8), (t11), (t12), (t13), (t14), (.slice Ao10 t5.length co10), (.slice Ao11 t8.length co11), (by first | rfl | (simp; done) | (simp [*]; done)), H', ⟨Nat.le_refl _⟩, ⟨moR (rW HO7)⟩, ⟨moR (rW HO10)⟩, ⟨by (with_reducible repeat (first | refine blk_drewN ?_ _ | refine blk_drew ?_ | refine blk_alloc ?_ _)); refine blk_put (cs := #[.int .u32 t3, .int .i64 t4, .slice Ao10 t5.length co10, .slice Ao11 t8.length co11, .int .u32 t11, .int .u32 t12, .int .i64 t13, .int .u32 a1_7]) ?_ 7 _ rfl; (with_reducible repeat (first | refine blk_drewN ?_ _ | refine blk_drew ?_ | refine blk_alloc ?_ _)); refine blk_put (cs := #[.int .u32 t3, .int .i64 t4, .slice Ao10 t5.length co10, .slice Ao11 t8.length co11, .int .u32 t11, .int .u32 t12, .int .i64 a1_6, .int .u32 a1_7]) ?_ 6 _ rfl; (with_reducible repeat (first | refine blk_drewN ?_ _ | refine blk_drew ?_ | refine blk_alloc ?_ _)); refine blk_put (cs := #[.int .u32 t3, .int .i64 t4, .slice Ao10 t5.length co10, .slice Ao11 t8.length co11, .int .u32 t11, .int .u32 a1_5, .int .i64 a1_6, .int .u32 a1_7]) ?_ 5 _ rfl; (with_reducible repeat (first | refine blk_drewN ?_ _ | refine blk_drew ?_ | refine blk_alloc ?_ _)); refine blk_put (cs := #[.int .u32 t3, .int .i64 t4, .slice Ao10 t5.length co10, .slice Ao11 t8.length co11, .int .u32 a1_4, .int .u32 a1_5, .int .i64 a1_6, .int .u32 a1_7]) ?_ 4 _ rfl; (with_reducible repeat (first | refine blk_drewN ?_ _ | refine blk_drew ?_ | refine blk_alloc ?_ _)); refine blk_put (cs := #[.int .u32 t3, .int .i64 t4, .slice Ao10 t5.length co10, .slice A1_3 l1_3.length c1_3, .int .u32 a1_4, .int .u32 a1_5, .int .i64 a1_6, .int .u32 a1_7]) ?_ 3 _ rfl; (with_reducible repeat (first | refine blk_drewN ?_ _ | refine blk_drew ?_ | refine blk_alloc ?_ _)); refine blk_put (cs := #[.int .u32 t3, .int .i64 t4, .slice A1_2 l1_2.length c1_2, .slice A1_3 l1_3.length c1_3, .int .u32 a1_4, .int .u32 a1_5, .int .i64 a1_6, .int .u32 a1_7]) ?_ 2 _ rfl; (with_reducible repeat (first | refine blk_drewN ?_ _ | refine blk_drew ?_ | refine blk_alloc ?_ _)); refine blk_put (cs := #[.int .u32 t3, .int .i64 a1_1, .slice A1_2 l1_2.length c1_2, .slice A1_3 l1_3.length c1_3, .int .u32 a1_4, .int .u32 a1_5, .int .i64 a1_6, .int .u32 a1_7]) ?_ 1 _ rfl; (with_reducible repeat (first | refine blk_drewN ?_ _ | refine blk_drew ?_ | refine blk_alloc ?_ _)); refine blk_put (cs := #[.int .u32 a1_0, .int .i64 a1_1, .slice A1_2 l1_2.length c1_2, .slice A1_3 l1_3.length c1_3, .int .u32 a1_4, .int .u32 a1_5, .int .i64 a1_6, .int .u32 a1_7]) ?_ 0 _ rfl; (with_reducible repeat (first | refine blk_drewN ?_ _ | refine blk_drew ?_ | refine blk_alloc ?_ _)); exact BK1.out⟩, ⟨by (with_reducible repeat (first | refine blk_drewN ?_ _ | refine blk_drew ?_ | refine blk_alloc ?_ _)); refine blk_far ?_ NB2_1.out _; (with_reducible repeat (first | refine blk_drewN ?_ _ | refine blk_drew ?_ | refine blk_alloc ?_ _)); refine blk_far ?_ NB2_1.out _; (with_reducible repeat (first | refine blk_drewN ?_ _ | refine blk_drew ?_ | refine blk_alloc ?_ _)); refine blk_far ?_ NB2_1.out _; (with_reducible repeat (first | refine blk_drewN ?_ _ | refine blk_drew ?_ | refine blk_alloc ?_ _)); refine blk_far ?_ NB2_1.out _; (with_reducible repeat (first | refine blk_drewN ?_ _ | refine blk_drew ?_ | refine blk_alloc ?_ _)); refine blk_far ?_ NB2_1.out _; (with_reducible repeat (first | refine blk_drewN ?_ _ | refine blk_drew ?_ | refine blk_alloc ?_ _)); refine blk_far ?_ NB2_1.out _; (with_reducible repeat (first | refine blk_drewN ?_ _ | refine blk_drew ?_ | refine blk_alloc ?_ _)); refine blk_far ?_ NB2_1.out _; (with_reducible repeat (first | refine blk_drewN ?_ _ | refine blk_drew ?_ | refine blk_alloc ?_ _)); refine blk_far ?_ NB2_1.out _; (with_reducible repeat (first | refine blk_drewN ?_ _ | refine blk_drew ?_ | refine blk_alloc ?_ _)); exact BK2.out⟩, ⟨hbW HB⟩⟩
 case round =>
  clear H'
  try clear c1
  try clear c2
  try clear p2
  try clear c6
  try clear hcz7_0 hcz7_1 hcz7_2 hcz7_3 hcz7_4 hcz7_5 hcz7_6 hcz7_7
  try clear hcz9_0 hcz9_1 hcz9_2 hcz9_3 hcz9_4 hcz9_5 hcz9_6 hcz9_7
  try clear hfz7_0 hfz7_1 hfz7_2 hfz7_3 hfz7_4 hfz7_5 hfz7_6 hfz7_7
  try clear hfz9_0 hfz9_1 hfz9_2 hfz9_3 hfz9_4 hfz9_5 hfz9_6 hfz9_7
  obtain ⟨x11_1, x2000_1, x2001_1, x2002_1, x2003_1, x2004_1, x2005_1, x2006_1, x2007_1, u2002, u2003, rfl, HA, HK1, HO_2002, HO_2003, BK1, BK2, HB⟩ := hrel
  cases gk with
  | zero => exact absurd HA.out (by simp [q31z.l0])
  | succ k1 =>
   have H := HA.out
   clear HA
   simp only [q31z.l0] at H
   by_cases c12 : x11_1 < (l0.length : Int)
   ·
    rw [if_pos c12] at H
    have c12b0 : decide (x11_1 < (l0.length : Int)) = true := decide_eq_true c12
    clear c12
    by_cases c13 : 0 ≤ x11_1
    ·
     rw [if_pos c13] at H
     have c13b0 : decide (0 ≤ x11_1) = true := decide_eq_true c13
     clear c13
     by_cases c14 : x11_1 < (l0.length : Int)
     ·
      rw [if_pos c14] at H
      have c14b0 : decide (x11_1 < (l0.length : Int)) = true := decide_eq_true c14
      clear c14
      replace H := Option.bind_eq_some_iff.mp H
      obtain ⟨⟨t17, t18, t19, t22, t25, t26, t27, t28⟩, A150, H⟩ := H
      replace H : (q31z.l0 k1 l0 (l0.length : Int) (wrap64 (x11_1 + 1)) t17 t18 t19 t22 t25 t26 t27 t28) = some (r1, r2, r3, r4, r5, r6, r7, r8) := H
      have A15 := Aside0.mk A150
      clear A150
      have H' := Aside0.mk H
      clear H
      have p15 : 0 ≤ (x11_1 : Int) := of_decide_eq_true (by first | (with_reducible assumption) | assumption)
      have q15 : x11_1 < (l0.length : Int) := of_decide_eq_true (by first | (with_reducible assumption) | assumption)
      obtain ⟨ad15, A15_2, c15_2, A15_3, c15_3, e15, hx15_0, hx15_1, hx15_2, hx15_3, hl15_2, hi15_2, hl15_3, hi15_3⟩ := at_T26 HR0.out x11_1 p15 q15
      cases e15
      replace hx15_0 := (HB.out.cell (World.block_lt_of_cell? w _ hx15_0)).trans hx15_0
      replace hx15_1 := (HB.out.cell (World.block_lt_of_cell? w _ hx15_1)).trans hx15_1
      replace hx15_2 := (HB.out.cell (World.block_lt_of_cell? w _ hx15_2)).trans hx15_2
      replace hx15_3 := (HB.out.cell (World.block_lt_of_cell? w _ hx15_3)).trans hx15_3
      have HR15_2 := Aside0.mk hi15_2
      have HC15_2 := Aside0.mk hl15_2
      clear hi15_2 hl15_2
      have HR15_3 := Aside0.mk hi15_3
      have HC15_3 := Aside0.mk hl15_3
      clear hi15_3 hl15_3
      replace p15 := eq_true p15
      replace q15 := eq_true q15
      go_wp2_with (first | ((with_reducible refine gate_dst (N := 6) rfl ?_); refine box_event ?hg (N := 6) ?hd (cs := #[.int .i64 0, .int .u32 0, .slice none 0 0, .slice none 0 0]) (t := 26) ?hr ?_; (case hd => rfl); (case hg => rfl); (case hr => first | (go_simp; done) | (go_simp; rfl)); intro gb16 hg w16 hbox hb; have BK16 := Aside0.mk (hbox); have GW16 := gwS hg HB; have GE16 := gwS hg HB; have NB1_16 := nbL hg BK1; have NB16_1 := nbG hg BK1; have NB2_16 := nbL hg BK2; have NB16_2 := nbG hg BK2; replace HO_2002 := Aside0.mk (Kd.R_below (rW HO_2002) hb); replace HO_2003 := Aside0.mk (Kd.R_below (rW HO_2003) hb); replace BK1 := bkB BK1 hb; replace BK2 := bkB BK2 hb; replace HB := hbS HB hb; clear hb hbox hg; have hnb17 := NB16_1.out; have hnc17 := NB1_16.out; have hnb18 := NB16_2.out; have hnc18 := NB2_16.out; obtain ⟨hcz19_0, hcz19_1, hcz19_2, hcz19_3, hfz19_0, hfz19_1, hfz19_2, hfz19_3⟩ := bc4 BK16; have hnb20 := NB1_2.out; have hnc20 := NB2_1.out; obtain ⟨hcz21_0, hcz21_1, hcz21_2, hcz21_3, hcz21_4, hcz21_5, hcz21_6, hcz21_7, hfz21_0, hfz21_1, hfz21_2, hfz21_3, hfz21_4, hfz21_5, hfz21_6, hfz21_7⟩ := bc8 BK1; obtain ⟨Ao22, co22, eo22⟩ := Kd.R_slice HO_2002.out; subst eo22; obtain ⟨Ao23, co23, eo23⟩ := Kd.R_slice HO_2003.out; subst eo23) | ((with_reducible refine gate_callee (f := 17) rfl ?_); refine goesL_ (some 17) rfl rfl Try.func17 (by kernel_rfl) rfl #[.agg #[.int .i64 ((rd_T26 l0 x11_1).f0), .int .u32 ((rd_T26 l0 x11_1).f1), .slice A15_2 ((rd_T26 l0 x11_1).f2).length c15_2, .slice A15_3 ((rd_T26 l0 x11_1).f3).length c15_3], .agg #[.int .u32 x2000_1, .int .i64 x2001_1, .slice Ao22 x2002_1.length co22, .slice Ao23 x2003_1.length co23, .int .u32 x2004_1, .int .u32 x2005_1, .int .i64 x2006_1, .int .u32 x2007_1]] rfl (by (try simp only [List.map_toArray, List.map_cons, List.map_nil]); first | done | rfl | (simp only [List.length_drop, List.length_take]; rfl)) ?_; (with_reducible refine (q21z.calls k1 ((rd_T26 l0 x11_1).f0) ((rd_T26 l0 x11_1).f1) _ _ ((rd_T26 l0 x11_1).f2) _ _ ((rd_T26 l0 x11_1).f3) x2000_1 x2001_1 _ _ x2002_1 _ _ x2003_1 x2004_1 x2005_1 x2006_1 x2007_1 t17 t18 t19 t22 t25 t26 t27 t28 _ ?side1 ?side2 ?side3 ?side4 ?side5 ?side6 ?side7 ?side8 A15.out).mono ?_); (case side1 => exact Kd.C_below HR15_2.out (hbW HB)); (case side2 => exact HC15_2.out); (case side3 => exact Kd.C_below HR15_3.out (hbW HB)); (case side4 => exact HC15_3.out); (case side5 => refine (Kd.R_reads' (e := 22) (base := w.heap.size) (ok := fun k_ => some k_ ≠ (.slice Ao23 x2003_1.length co23 : Value).ownBlock) (n := x2002_1.length) (c := co22) ?_).2.2; exact (rW HO_2002)); (case side6 => exact (Kd.R_reads' HO_2002.out).2.1); (case side7 => refine (Kd.R_reads' (e := 22) (base := w.heap.size) (ok := fun k_ => some k_ ≠ (.slice Ao22 x2002_1.length co22 : Value).ownBlock) (n := x2003_1.length) (c := co23) ?_).2.2; exact (rW HO_2003)); (case side8 => exact (Kd.R_reads' HO_2003.out).2.1); rintro e w24 ⟨v20, v23, rfl, ho0, ho1, hb⟩; refine ⟨_, rfl, ?_⟩; have HO21 := Aside0.mk (Kd.R_lower (Kd.R_new' (Kd.R_new' ho0 (Kd.R_lt (rW HO_2002))) (Kd.R_lt (rW HO_2003))) (below_size (hbW HB))); have HO24 := Aside0.mk (Kd.R_lower (Kd.R_new' (Kd.R_new' ho1 (Kd.R_lt (rW HO_2002))) (Kd.R_lt (rW HO_2003))) (below_size (hbW HB))); replace HO_2002 := Aside0.mk (Kd.R_mono (Kd.R_told (Kd.R_told (Kd.R_old (rW HO_2002) hb) (Kd.R_base ho0)) (Kd.R_base ho1)) (fun _ h_ => h_.1)); replace HO_2003 := Aside0.mk (Kd.R_mono (Kd.R_told (Kd.R_told (Kd.R_old (rW HO_2003) hb) (Kd.R_base ho0)) (Kd.R_base ho1)) (fun _ h_ => h_.1)); replace BK1 := bvB BK1 hb; replace BK2 := bvB BK2 hb; replace BK16 := Aside0.mk (blk_below (g := gb16) (o := .cells #[.int .i64 ((rd_T26 l0 x11_1).f0), .int .u32 ((rd_T26 l0 x11_1).f1), .slice A15_2 ((rd_T26 l0 x11_1).f2).length c15_2, .slice A15_3 ((rd_T26 l0 x11_1).f3).length c15_3] 26 (0, 0)) (bp4 BK16) hb); replace HB := hbS HB hb; (try clear hb); (try clear ho0); (try clear ho1); obtain ⟨hcz25_0, hcz25_1, hcz25_2, hcz25_3, hcz25_4, hcz25_5, hcz25_6, hcz25_7, hfz25_0, hfz25_1, hfz25_2, hfz25_3, hfz25_4, hfz25_5, hfz25_6, hfz25_7⟩ := bc8 BK1; obtain ⟨Ao26, co26, eo26⟩ := Kd.R_slice HO21.out; subst eo26; obtain ⟨Ao27, co27, eo27⟩ := Kd.R_slice HO24.out; subst eo27))
      go_roundg k1
      case measure => have := HK1.out; omega
      case rel => exact ⟨(wrap64 (x11_1 + 1)), (t17), (t18), (t19), (t22), (t25), (t26), (t27), (t28), (.slice Ao26 t19.length co26), (.slice Ao27 t22.length co27), (by first | rfl | (simp; done) | (simp [*]; done)), H', ⟨by have := HK1.out; omega⟩, ⟨moR (rW HO21)⟩, ⟨moR (rW HO24)⟩, ⟨by (with_reducible repeat (first | refine blk_drewN ?_ _ | refine blk_drew ?_ | refine blk_alloc ?_ _)); refine blk_put (cs := #[.int .u32 t17, .int .i64 t18, .slice Ao26 t19.length co26, .slice Ao27 t22.length co27, .int .u32 t25, .int .u32 t26, .int .i64 t27, .int .u32 x2007_1]) ?_ 7 _ rfl; (with_reducible repeat (first | refine blk_drewN ?_ _ | refine blk_drew ?_ | refine blk_alloc ?_ _)); refine blk_put (cs := #[.int .u32 t17, .int .i64 t18, .slice Ao26 t19.length co26, .slice Ao27 t22.length co27, .int .u32 t25, .int .u32 t26, .int .i64 x2006_1, .int .u32 x2007_1]) ?_ 6 _ rfl; (with_reducible repeat (first | refine blk_drewN ?_ _ | refine blk_drew ?_ | refine blk_alloc ?_ _)); refine blk_put (cs := #[.int .u32 t17, .int .i64 t18, .slice Ao26 t19.length co26, .slice Ao27 t22.length co27, .int .u32 t25, .int .u32 x2005_1, .int .i64 x2006_1, .int .u32 x2007_1]) ?_ 5 _ rfl; (with_reducible repeat (first | refine blk_drewN ?_ _ | refine blk_drew ?_ | refine blk_alloc ?_ _)); refine blk_put (cs := #[.int .u32 t17, .int .i64 t18, .slice Ao26 t19.length co26, .slice Ao27 t22.length co27, .int .u32 x2004_1, .int .u32 x2005_1, .int .i64 x2006_1, .int .u32 x2007_1]) ?_ 4 _ rfl; (with_reducible repeat (first | refine blk_drewN ?_ _ | refine blk_drew ?_ | refine blk_alloc ?_ _)); refine blk_put (cs := #[.int .u32 t17, .int .i64 t18, .slice Ao26 t19.length co26, .slice Ao23 x2003_1.length co23, .int .u32 x2004_1, .int .u32 x2005_1, .int .i64 x2006_1, .int .u32 x2007_1]) ?_ 3 _ rfl; (with_reducible repeat (first | refine blk_drewN ?_ _ | refine blk_drew ?_ | refine blk_alloc ?_ _)); refine blk_put (cs := #[.int .u32 t17, .int .i64 t18, .slice Ao22 x2002_1.length co22, .slice Ao23 x2003_1.length co23, .int .u32 x2004_1, .int .u32 x2005_1, .int .i64 x2006_1, .int .u32 x2007_1]) ?_ 2 _ rfl; (with_reducible repeat (first | refine blk_drewN ?_ _ | refine blk_drew ?_ | refine blk_alloc ?_ _)); refine blk_put (cs := #[.int .u32 t17, .int .i64 x2001_1, .slice Ao22 x2002_1.length co22, .slice Ao23 x2003_1.length co23, .int .u32 x2004_1, .int .u32 x2005_1, .int .i64 x2006_1, .int .u32 x2007_1]) ?_ 1 _ rfl; (with_reducible repeat (first | refine blk_drewN ?_ _ | refine blk_drew ?_ | refine blk_alloc ?_ _)); refine blk_put (cs := #[.int .u32 x2000_1, .int .i64 x2001_1, .slice Ao22 x2002_1.length co22, .slice Ao23 x2003_1.length co23, .int .u32 x2004_1, .int .u32 x2005_1, .int .i64 x2006_1, .int .u32 x2007_1]) ?_ 0 _ rfl; (with_reducible repeat (first | refine blk_drewN ?_ _ | refine blk_drew ?_ | refine blk_alloc ?_ _)); exact BK1.out⟩, ⟨by (with_reducible repeat (first | refine blk_drewN ?_ _ | refine blk_drew ?_ | refine blk_alloc ?_ _)); refine blk_far ?_ NB2_1.out _; (with_reducible repeat (first | refine blk_drewN ?_ _ | refine blk_drew ?_ | refine blk_alloc ?_ _)); refine blk_far ?_ NB2_1.out _; (with_reducible repeat (first | refine blk_drewN ?_ _ | refine blk_drew ?_ | refine blk_alloc ?_ _)); refine blk_far ?_ NB2_1.out _; (with_reducible repeat (first | refine blk_drewN ?_ _ | refine blk_drew ?_ | refine blk_alloc ?_ _)); refine blk_far ?_ NB2_1.out _; (with_reducible repeat (first | refine blk_drewN ?_ _ | refine blk_drew ?_ | refine blk_alloc ?_ _)); refine blk_far ?_ NB2_1.out _; (with_reducible repeat (first | refine blk_drewN ?_ _ | refine blk_drew ?_ | refine blk_alloc ?_ _)); refine blk_far ?_ NB2_1.out _; (with_reducible repeat (first | refine blk_drewN ?_ _ | refine blk_drew ?_ | refine blk_alloc ?_ _)); refine blk_far ?_ NB2_1.out _; (with_reducible repeat (first | refine blk_drewN ?_ _ | refine blk_drew ?_ | refine blk_alloc ?_ _)); refine blk_far ?_ NB2_1.out _; (with_reducible repeat (first | refine blk_drewN ?_ _ | refine blk_drew ?_ | refine blk_alloc ?_ _)); exact BK2.out⟩, ⟨hbW HB⟩⟩
     ·
      rw [if_neg c14] at H
      exact absurd H (by simp)
    ·
     rw [if_neg c13] at H
     exact absurd H (by simp)
   ·
    rw [if_neg c12] at H
    have c12b0 : decide (x11_1 < (l0.length : Int)) = false := decide_eq_false c12
    clear c12
    simp only [Option.some.injEq, Prod.mk.injEq] at H
    obtain ⟨rfl, rfl, rfl, rfl, rfl, rfl, rfl, rfl⟩ := H
    have hnb28 := NB1_2.out
    have hnc28 := NB2_1.out
    obtain ⟨hcz29_0, hcz29_1, hcz29_2, hcz29_3, hcz29_4, hcz29_5, hcz29_6, hcz29_7, hfz29_0, hfz29_1, hfz29_2, hfz29_3, hfz29_4, hfz29_5, hfz29_6, hfz29_7⟩ := bc8 BK1
    obtain ⟨hcz30_0, hcz30_1, hcz30_2, hcz30_3, hcz30_4, hcz30_5, hcz30_6, hcz30_7, hfz30_0, hfz30_1, hfz30_2, hfz30_3, hfz30_4, hfz30_5, hfz30_6, hfz30_7⟩ := bc8 BK2
    obtain ⟨Ao31, co31, eo31⟩ := Kd.R_slice HO_2002.out
    subst eo31
    obtain ⟨Ao32, co32, eo32⟩ := Kd.R_slice HO_2003.out
    subst eo32
    go_wp2
    refine bodyPost_ret (results_cell_row rfl _ _ gb2 30 #[.int .u32 x2000_1, .int .i64 x2001_1, .slice Ao31 x2002_1.length co31, .slice Ao32 x2003_1.length co32, .int .u32 x2004_1, .int .u32 x2005_1, .int .i64 x2006_1, .int .u32 x2007_1] (0, 0) _ rfl (bp8 BK2) Try.underlying30 rfl (by kernel_rfl)) rfl ?_
    exact ⟨_, _, by first | rfl | (simp [errW_none, errW_some] <;> rfl) | (simp [*, errW_none, errW_some] <;> rfl), moR (rW HO_2002), moR (rW HO_2003), hbW HB⟩

end Go.Proofs.Ytgelpccjdndfoaa.P
namespace Go.Proofs.Ytgelpccjdndfoaa.P
open Go.RowKit Go.Proofs.YtgelpccjdndfoaaW.PrintWords Go.Proofs.YtgelpccjdndfoaaW.PrintMore
theorem wr (i : Int) (h0 : -9223372036854775808 ≤ i) (h1 : i ≤ 9223372036854775807) : wrap64 i = i := by unfold wrap64; omega
theorem wrN (i : Nat) (h : i < 9223372036854775807) : wrap64 ((i : Int) + 1) = ((i + 1 : Nat) : Int) := by rw [wr _ (by omega) (by omega)]; omega
theorem rdI (l : List Int) (i : Nat) (h : i < l.length) : rd l (i : Int) = l[i] := by
  unfold rd
  rw [Int.toNat_natCast, List.getD_eq_getElem?_getD, List.getElem?_eq_getElem h]
  rfl
def U32 (a : Int) : Prop := 0 ≤ a ∧ a ≤ 4294967295
def I64 (a : Int) : Prop := -9223372036854775808 ≤ a ∧ a ≤ 9223372036854775807
theorem u32_of {a : Int} (h : (Lit.int .u32 a).wf = true) : U32 a := by
  simp [Lit.wf, IntKind.min, IntKind.max, IntKind.signed, IntKind.bits] at h
  unfold U32
  omega
theorem i64_of {a : Int} (h : (Lit.int .i64 a).wf = true) : I64 a := by
  simp [Lit.wf, IntKind.min, IntKind.max, IntKind.signed, IntKind.bits] at h
  unfold I64
  omega
theorem U32.wr {a : Int} (h : U32 a) : wrap64 a = a := by obtain ⟨h0, h1⟩ := h; exact Go.Proofs.Ytgelpccjdndfoaa.P.wr a (by omega) (by omega)
/-- A list of numbers of 32 bits, no longer than memory has it. -/
def LU (l : List Int) : Prop := l.length ≤ 9223372036854775807 ∧ ∀ z ∈ l, U32 z
theorem lu_of {l : List Int} (h : l.length ≤ 9223372036854775807 ∧ ∀ z_ ∈ l, (Lit.int .u32 z_).wf = true) : LU l := ⟨h.1, fun z hz => u32_of (h.2 z hz)⟩
/-! Which comes first. -/
def cmpI (a b : Int) : Int := if a < b then -1 else if a > b then 1 else 0
def listC : List Int → List Int → Int
  | [], [] => 0
  | [], _ :: _ => -1
  | _ :: _, [] => 1
  | a :: s, b :: t => if cmpI a b = 0 then listC s t else cmpI a b
def firstNZ : List Int → Int
  | [] => 0
  | a :: s => if a = 0 then firstNZ s else a
/-- What an order's answer has. -/
structure Ord {α : Type} (c : α → α → Int) : Prop where
  rng : ∀ a b, c a b = -1 ∨ c a b = 0 ∨ c a b = 1
  anti : ∀ a b, c b a = - c a b
  eq0 : ∀ a b, c a b = 0 → a = b
  trans : ∀ a b d, c a b ≤ 0 → c b d ≤ 0 → c a d ≤ 0
theorem Ord.self {α : Type} {c : α → α → Int} (h : Ord c) (a : α) : c a a = 0 := by have := h.anti a a; omega
theorem cmpI_ord : Ord cmpI where
  rng a b := by unfold cmpI; split <;> (try split) <;> omega
  anti a b := by unfold cmpI; split <;> split <;> (try split) <;> (try split) <;> omega
  eq0 a b h := by unfold cmpI at h; split at h <;> (try split at h) <;> omega
  trans a b d h1 h2 := by
    unfold cmpI at *
    split at h1 <;> (try split at h1) <;> split at h2 <;> (try split at h2) <;> split <;> (try split) <;> omega
def lex {α β : Type} (c1 : α → α → Int) (c2 : β → β → Int) (a b : α × β) : Int := if c1 a.1 b.1 = 0 then c2 a.2 b.2 else c1 a.1 b.1
theorem Ord.lex {α β : Type} {c1 : α → α → Int} {c2 : β → β → Int} (h1 : Ord c1) (h2 : Ord c2) : Ord (lex c1 c2) where
  rng a b := by unfold P.lex; split; exact h2.rng _ _; exact h1.rng _ _
  anti a b := by
    unfold P.lex
    have e := h1.anti a.1 b.1
    by_cases h : c1 a.1 b.1 = 0
    · rw [if_pos h, if_pos (by omega)]; exact h2.anti _ _
    · rw [if_neg h, if_neg (by omega)]; exact e
  eq0 a b h := by
    unfold P.lex at h
    by_cases h0 : c1 a.1 b.1 = 0
    · rw [if_pos h0] at h
      exact Prod.ext (h1.eq0 _ _ h0) (h2.eq0 _ _ h)
    · rw [if_neg h0] at h; exact absurd h h0
  trans a b d ha hb := by
    unfold P.lex at *
    by_cases e1 : c1 a.1 b.1 = 0
    · rw [if_pos e1] at ha
      rw [h1.eq0 _ _ e1]
      by_cases e2 : c1 b.1 d.1 = 0
      · rw [if_pos e2] at hb ⊢; exact h2.trans _ _ _ ha hb
      · rw [if_neg e2] at hb ⊢; exact hb
    · rw [if_neg e1] at ha
      by_cases e2 : c1 b.1 d.1 = 0
      · rw [if_pos e2] at hb
        rw [← h1.eq0 _ _ e2, if_neg e1]; exact ha
      · rw [if_neg e2] at hb
        have t := h1.trans _ _ _ ha hb
        by_cases e3 : c1 a.1 d.1 = 0
        · have := h1.eq0 _ _ e3
          have := h1.anti a.1 b.1
          rw [← h1.eq0 _ _ e3] at hb
          omega
        · rw [if_neg e3]; exact t
theorem listC_rng : ∀ a b, listC a b = -1 ∨ listC a b = 0 ∨ listC a b = 1
  | [], [] => by simp [listC]
  | [], _ :: _ => by simp [listC]
  | _ :: _, [] => by simp [listC]
  | a :: s, b :: t => by
    simp only [listC]
    split
    · exact listC_rng s t
    · exact cmpI_ord.rng a b
theorem listC_anti : ∀ a b, listC b a = - listC a b
  | [], [] => by simp [listC]
  | [], _ :: _ => by simp [listC]
  | _ :: _, [] => by simp [listC]
  | a :: s, b :: t => by
    simp only [listC]
    have e := cmpI_ord.anti a b
    by_cases h : cmpI a b = 0
    · rw [if_pos h, if_pos (by omega)]; exact listC_anti s t
    · rw [if_neg h, if_neg (by omega)]; exact e
theorem listC_eq0 : ∀ a b, listC a b = 0 → a = b
  | [], [] => fun _ => rfl
  | [], _ :: _ => by simp [listC]
  | _ :: _, [] => by simp [listC]
  | a :: s, b :: t => by
    simp only [listC]
    by_cases h : cmpI a b = 0
    · rw [if_pos h]
      intro h2
      rw [cmpI_ord.eq0 a b h, listC_eq0 s t h2]
    · rw [if_neg h]; exact fun h2 => absurd h2 h
theorem listC_trans : ∀ a b d, listC a b ≤ 0 → listC b d ≤ 0 → listC a d ≤ 0
  | [], _, [] => by simp [listC]
  | [], _, _ :: _ => by simp [listC]
  | _ :: _, [], _ => by simp [listC]
  | _ :: _, _ :: _, [] => by simp [listC]
  | a :: s, b :: t, d :: u => by
    intro h1 h2
    have k : ∀ x y : Int, ∀ p q : List Int, listC (x :: p) (y :: q) = if cmpI x y = 0 then listC p q else cmpI x y := fun _ _ _ _ => rfl
    rw [k] at h1 h2 ⊢
    by_cases e1 : cmpI a b = 0
    · rw [if_pos e1] at h1
      rw [cmpI_ord.eq0 a b e1]
      by_cases e2 : cmpI b d = 0
      · rw [if_pos e2] at h2 ⊢; exact listC_trans s t u h1 h2
      · rw [if_neg e2] at h2 ⊢; exact h2
    · rw [if_neg e1] at h1
      by_cases e2 : cmpI b d = 0
      · rw [← cmpI_ord.eq0 b d e2, if_neg e1]; exact h1
      · rw [if_neg e2] at h2
        have t := cmpI_ord.trans a b d h1 h2
        by_cases e3 : cmpI a d = 0
        · have := cmpI_ord.anti a b
          rw [← cmpI_ord.eq0 a d e3] at h2
          omega
        · rw [if_neg e3]; exact t
theorem listC_ord : Ord listC := ⟨listC_rng, listC_anti, listC_eq0, listC_trans⟩
abbrev R8 := Int × Int × List Int × List Int × Int × Int × Int × Int
def cmpR (a b : R8) : Int := firstNZ [cmpI a.1 b.1, cmpI a.2.1 b.2.1, listC a.2.2.1 b.2.2.1, listC a.2.2.2.1 b.2.2.2.1, cmpI a.2.2.2.2.1 b.2.2.2.2.1, cmpI a.2.2.2.2.2.1 b.2.2.2.2.2.1, cmpI a.2.2.2.2.2.2.1 b.2.2.2.2.2.2.1, cmpI a.2.2.2.2.2.2.2 b.2.2.2.2.2.2.2]
theorem cmpR_eq : cmpR = lex cmpI (lex cmpI (lex listC (lex listC (lex cmpI (lex cmpI (lex cmpI cmpI)))))) := by
  funext a b
  have z : ∀ x : Int, (if x = 0 then (0 : Int) else x) = x := fun x => by split <;> omega
  simp only [cmpR, firstNZ, lex, z]
theorem cmpR_ord : Ord cmpR := by
  rw [cmpR_eq]
  exact cmpI_ord.lex (cmpI_ord.lex (listC_ord.lex (listC_ord.lex (cmpI_ord.lex (cmpI_ord.lex (cmpI_ord.lex cmpI_ord))))))
/-! What the code computes. -/
theorem number_f (a b : Int) : q14z.f a b = some (cmpI a b) := by
  unfold q14z.f cmpI
  split
  · rfl
  · split <;> rfl
theorem cmpI_self (a : Int) : cmpI a a = 0 := cmpI_ord.self a
theorem drop_ge (l : List Int) (i : Nat) (h : l.length ≤ i) : l.drop i = [] := List.drop_eq_nil_of_le h
theorem list_end (a b : List Int) (i : Nat) (ha : i ≤ a.length) (hb : i ≤ b.length) (h : ¬ (i < a.length ∧ i < b.length)) : cmpI (a.length : Int) (b.length : Int) = listC (a.drop i) (b.drop i) := by
  by_cases h1 : i < a.length
  · have h2 : ¬ i < b.length := fun h2 => h ⟨h1, h2⟩
    rw [drop_ge b i (by omega), List.drop_eq_getElem_cons h1]
    simp only [listC]
    unfold cmpI
    rw [if_neg (by omega), if_pos (by omega)]
  · rw [drop_ge a i (by omega)]
    by_cases h2 : i < b.length
    · rw [List.drop_eq_getElem_cons h2]
      simp only [listC]
      unfold cmpI
      rw [if_pos (by omega)]
    · rw [drop_ge b i (by omega)]
      simp only [listC]
      unfold cmpI
      rw [if_neg (by omega), if_neg (by omega)]
theorem list_l0 (a b : List Int) (ha : LU a) (hb : LU b) : ∀ (d i : Nat), i + d = a.length → i ≤ b.length → Ev (fun k => q15z.l0 k a b (i : Int)) (listC (a.drop i) (b.drop i))
  | 0, i, hi, hib => by
    refine Ev.step (f := fun k => q15z.j1 k a b (i : Int) false) (fun k => ?_) ?_
    · simp only [q15z.l0]
      rw [if_neg (by omega)]
    · refine Ev.step (f := fun _ => some (listC (a.drop i) (b.drop i))) (fun k => ?_) (Ev.now _)
      simp only [q15z.j1, Bool.false_eq_true, if_false, number_f, Option.bind_some, list_end a b i (by omega) hib (by omega)]
  | d + 1, i, hi, hib => by
    have hia : i < a.length := by omega
    have hl := ha.1
    by_cases h : i < b.length
    · have ih := list_l0 a b ha hb d (i + 1) (by omega) (by omega)
      refine Ev.step (f := fun k => q15z.j1 k a b (i : Int) true) (fun k => ?_) ?_
      · simp only [q15z.l0]
        rw [if_pos (by omega), decide_eq_true (by omega)]
      · rw [List.drop_eq_getElem_cons hia, List.drop_eq_getElem_cons h]
        by_cases e : a[i] = b[i]
        · refine Ev.step (f := fun k => q15z.l0 k a b ((i + 1 : Nat) : Int)) (fun k => ?_) ?_
          · simp only [q15z.j1]
            rw [if_pos trivial, if_pos (by omega), if_pos (by omega), if_pos (by omega), rdI a i hia, rdI b i h, if_pos e, wrN i (by omega)]
          · simp only [listC, e, cmpI_self, if_true]; exact ih
        · have e0 : cmpI a[i] b[i] ≠ 0 := fun h0 => e (cmpI_ord.eq0 _ _ h0)
          refine Ev.step (f := fun _ => some (cmpI a[i] b[i])) (fun k => ?_) ?_
          · simp only [q15z.j1]
            rw [if_pos trivial, if_pos (by omega), if_pos (by omega), if_pos (by omega), rdI a i hia, rdI b i h, if_neg e, (ha.2 _ (List.getElem_mem hia)).wr, (hb.2 _ (List.getElem_mem h)).wr, number_f, Option.bind_some]
          · simp only [listC, e0, if_false]; exact Ev.now _
    · refine Ev.step (f := fun k => q15z.j1 k a b (i : Int) false) (fun k => ?_) ?_
      · simp only [q15z.l0]
        rw [if_pos (by omega), decide_eq_false (by omega)]
      · refine Ev.step (f := fun _ => some (listC (a.drop i) (b.drop i))) (fun k => ?_) (Ev.now _)
        simp only [q15z.j1, Bool.false_eq_true, if_false, number_f, Option.bind_some, list_end a b i (by omega) hib (by omega)]
theorem list_ev (a b : List Int) (ha : LU a) (hb : LU b) : Ev (fun k => q15z.f k a b) (listC a b) := list_l0 a b ha hb a.length 0 (by omega) (by omega)
theorem cmp_step (c0 c1 c2 c3 c4 c5 c6 c7 : Int) (i : Nat) (hi : i < 8) (r : Int) (h : Ev (fun k => q16z.l0 k ((i + 1 : Nat) : Int) c0 c1 c2 c3 c4 c5 c6 c7) r) :
    Ev (fun k => q16z.l0 k (i : Int) c0 c1 c2 c3 c4 c5 c6 c7) (if arrA68 c0 c1 c2 c3 c4 c5 c6 c7 (i : Int) = 0 then r else arrA68 c0 c1 c2 c3 c4 c5 c6 c7 (i : Int)) := by
  by_cases e : arrA68 c0 c1 c2 c3 c4 c5 c6 c7 (i : Int) = 0
  · rw [if_pos e]
    refine Ev.step (f := fun k => q16z.l0 k ((i + 1 : Nat) : Int) c0 c1 c2 c3 c4 c5 c6 c7) (fun k => ?_) h
    simp only [q16z.l0]
    rw [if_pos (by omega), if_pos (by omega), if_pos e, wrN i (by omega)]
  · rw [if_neg e]
    refine Ev.step (f := fun _ => some (arrA68 c0 c1 c2 c3 c4 c5 c6 c7 (i : Int))) (fun k => ?_) (Ev.now _)
    simp only [q16z.l0]
    rw [if_pos (by omega), if_pos (by omega), if_neg e]
theorem cmp_l0 (c0 c1 c2 c3 c4 c5 c6 c7 : Int) : Ev (fun k => q16z.l0 k 0 c0 c1 c2 c3 c4 c5 c6 c7) (firstNZ [c0, c1, c2, c3, c4, c5, c6, c7]) := by
  have h8 : Ev (fun k => q16z.l0 k ((8 : Nat) : Int) c0 c1 c2 c3 c4 c5 c6 c7) 0 := Ev.step (f := fun _ => some 0) (fun k => rfl) (Ev.now _)
  exact cmp_step c0 c1 c2 c3 c4 c5 c6 c7 0 (by omega) _ (cmp_step c0 c1 c2 c3 c4 c5 c6 c7 1 (by omega) _ (cmp_step c0 c1 c2 c3 c4 c5 c6 c7 2 (by omega) _ (cmp_step c0 c1 c2 c3 c4 c5 c6 c7 3 (by omega) _ (cmp_step c0 c1 c2 c3 c4 c5 c6 c7 4 (by omega) _ (cmp_step c0 c1 c2 c3 c4 c5 c6 c7 5 (by omega) _ (cmp_step c0 c1 c2 c3 c4 c5 c6 c7 6 (by omega) _ (cmp_step c0 c1 c2 c3 c4 c5 c6 c7 7 (by omega) _ h8)))))))
/-- What a route's cells may hold. -/
def RU (a : R8) : Prop := U32 a.1 ∧ I64 a.2.1 ∧ LU a.2.2.1 ∧ LU a.2.2.2.1 ∧ U32 a.2.2.2.2.1 ∧ U32 a.2.2.2.2.2.1 ∧ I64 a.2.2.2.2.2.2.1 ∧ U32 a.2.2.2.2.2.2.2
theorem refCmp_ev (a b : R8) (ha : RU a) (hb : RU b) : Ev (fun k => q16z.f k a.1 a.2.1 a.2.2.1 a.2.2.2.1 a.2.2.2.2.1 a.2.2.2.2.2.1 a.2.2.2.2.2.2.1 a.2.2.2.2.2.2.2 b.1 b.2.1 b.2.2.1 b.2.2.2.1 b.2.2.2.2.1 b.2.2.2.2.2.1 b.2.2.2.2.2.2.1 b.2.2.2.2.2.2.2) (cmpR a b) := by
  obtain ⟨a0, a1, a2, a3, a4, a5, a6, a7⟩ := ha
  obtain ⟨b0, b1, b2, b3, b4, b5, b6, b7⟩ := hb
  obtain ⟨K1, e1⟩ := list_ev a.2.2.1 b.2.2.1 a2 b2
  obtain ⟨K2, e2⟩ := list_ev a.2.2.2.1 b.2.2.2.1 a3 b3
  obtain ⟨K3, e3⟩ := cmp_l0 (cmpI a.1 b.1) (cmpI a.2.1 b.2.1) (listC a.2.2.1 b.2.2.1) (listC a.2.2.2.1 b.2.2.2.1) (cmpI a.2.2.2.2.1 b.2.2.2.2.1) (cmpI a.2.2.2.2.2.1 b.2.2.2.2.2.1) (cmpI a.2.2.2.2.2.2.1 b.2.2.2.2.2.2.1) (cmpI a.2.2.2.2.2.2.2 b.2.2.2.2.2.2.2)
  refine ⟨K1 + K2 + K3, fun k hk => ?_⟩
  simp only [q16z.f, number_f, a0.wr, b0.wr, a4.wr, b4.wr, a5.wr, b5.wr, a7.wr, b7.wr, e1 k (by omega), e2 k (by omega), Option.bind_some]
  exact e3 k (by omega)
end Go.Proofs.Ytgelpccjdndfoaa.P
namespace Go.Proofs.Ytgelpccjdndfoaa.P
open Go.RowKit Go.Proofs.YtgelpccjdndfoaaW.PrintWords
/-! Eventually: facts of callees used at the same round. -/
theorem Ev.use {α β : Type} {g : Nat → Option α} {F G : Nat → Option β} {a : α} {r : β} (h : Ev g a) (hG : Ev G r) (hF : ∀ k, g k = some a → F (k + 1) = G k) : Ev F r := by
  obtain ⟨K, h⟩ := h
  obtain ⟨K', hG⟩ := hG
  refine ⟨max K K' + 1, fun n hn => ?_⟩
  obtain ⟨m, rfl⟩ : ∃ m, n = m + 1 := ⟨n - 1, by omega⟩
  rw [hF m (h m (by omega))]
  exact hG m (by omega)
theorem Ev.use2 {α α' β : Type} {g : Nat → Option α} {g' : Nat → Option α'} {F G : Nat → Option β} {a : α} {a' : α'} {r : β} (h : Ev g a) (h' : Ev g' a') (hG : Ev G r) (hF : ∀ k, g k = some a → g' k = some a' → F (k + 1) = G k) : Ev F r := by
  obtain ⟨K, h⟩ := h
  obtain ⟨K2, h'⟩ := h'
  obtain ⟨K', hG⟩ := hG
  refine ⟨max (max K K2) K' + 1, fun n hn => ?_⟩
  obtain ⟨m, rfl⟩ : ∃ m, n = m + 1 := ⟨n - 1, by omega⟩
  rw [hF m (h m (by omega)) (h' m (by omega))]
  exact hG m (by omega)
/-- The same without a step. -/
theorem Ev.with {α β : Type} {g : Nat → Option α} {F G : Nat → Option β} {a : α} {r : β} (h : Ev g a) (hG : Ev G r) (hF : ∀ k, g k = some a → F k = G k) : Ev F r := by
  obtain ⟨K, h⟩ := h
  obtain ⟨K', hG⟩ := hG
  exact ⟨max K K', fun n hn => by rw [hF n (h n (by omega))]; exact hG n (by omega)⟩
theorem Ev.with2 {α α' β : Type} {g : Nat → Option α} {g' : Nat → Option α'} {F G : Nat → Option β} {a : α} {a' : α'} {r : β} (h : Ev g a) (h' : Ev g' a') (hG : Ev G r) (hF : ∀ k, g k = some a → g' k = some a' → F k = G k) : Ev F r := by
  obtain ⟨K, h⟩ := h
  obtain ⟨K2, h'⟩ := h'
  obtain ⟨K', hG⟩ := hG
  exact ⟨max (max K K2) K', fun n hn => by rw [hF n (h n (by omega)) (h' n (by omega))]; exact hG n (by omega)⟩
/-- The last step. -/
theorem Ev.last {β : Type} {F : Nat → Option β} {r : β} (hF : ∀ k, F (k + 1) = some r) : Ev F r := ⟨1, fun n hn => by
  obtain ⟨m, rfl⟩ : ∃ m, n = m + 1 := ⟨n - 1, by omega⟩
  exact hF m⟩
/-- As a pair, of two. -/
theorem Ev.and {α α' : Type} {g : Nat → Option α} {g' : Nat → Option α'} {a : α} {a' : α'} (h : Ev g a) (h' : Ev g' a') : ∃ K, ∀ k, K ≤ k → g k = some a ∧ g' k = some a' := by
  obtain ⟨K, h⟩ := h
  obtain ⟨K2, h'⟩ := h'
  exact ⟨max K K2, fun k hk => ⟨h k (by omega), h' k (by omega)⟩⟩
end Go.Proofs.Ytgelpccjdndfoaa.P
namespace Go.Proofs.Ytgelpccjdndfoaa.P
open Go.RowKit Go.Proofs.YtgelpccjdndfoaaW.PrintWords Go.Proofs.YtgelpccjdndfoaaW.PrintMore
/-! Lists of communities: what the code and the document say. -/
def BoxU (b : S50) : Prop := U32 b.f0 ∧ U32 b.f1
theorem boxU_of {b : S50} (h : good50 b) : BoxU b := ⟨u32_of h.1, u32_of h.2⟩
def inS (n : Int) (s : S50) : Bool := inB s.f0.toNat s.f1.toNat n.toNat
theorem u32_nat {a : Int} (h : U32 a) : ∃ n : Nat, a = (n : Int) ∧ n < 4294967296 := ⟨a.toNat, by have := h.1; omega, by have := h.2; have := h.1; omega⟩
theorem in_f (b : S50) (hb : BoxU b) (c : Int) (hc : U32 c) : plane_In.f b.f0 b.f1 c = some (inS c b) := by
  have h1 : u32B b.f0 = true := by unfold u32B; have := hb.1; unfold U32 at this; simp; omega
  have h2 : u32B b.f1 = true := by unfold u32B; have := hb.2; unfold U32 at this; simp; omega
  have h3 : u32B c = true := by unfold u32B; unfold U32 at hc; simp; omega
  unfold plane_In.f
  rw [h1, h2, h3, if_pos (by rfl)]
  rfl
theorem refIn_f (b : S50) (hb : BoxU b) (c : Int) (hc : U32 c) : q17z.f b.f0 b.f1 c = some (inS c b) := by
  obtain ⟨lo, e1, h1⟩ := u32_nat hb.1
  obtain ⟨hi, e2, h2⟩ := u32_nat hb.2
  obtain ⟨c, rfl, h3⟩ := u32_nat hc
  unfold inS
  rw [e1, e2]
  simp only [Int.toNat_natCast]
  unfold q17z.f inB withinN
  rw [quoN lo h1, quoN hi h2, quoN c h3, remN lo, remN hi, remN c]
  by_cases c1 : lo / 65536 ≤ c / 65536
  · rw [if_pos (by omega), decide_eq_true c1, Bool.true_and]
    by_cases c2 : c / 65536 ≤ hi / 65536
    · rw [if_pos (by omega), decide_eq_true c2, Bool.true_and]
      by_cases c3 : lo % 65536 ≤ c % 65536
      · rw [if_pos (by omega), decide_eq_true c3, Bool.true_and]
        congr 1
        rw [decide_eq_decide]
        omega
      · rw [if_neg (by omega), decide_eq_false c3, Bool.false_and]
    · rw [if_neg (by omega), decide_eq_false c2]
      simp
  · rw [if_neg (by omega), decide_eq_false c1, Bool.false_and]
def hasB (b : S50) (cs : List Int) : Bool := cs.any (fun c => inS c b)
def allB (l : List S50) (cs : List Int) : Bool := l.all (fun b => hasB b cs)
def takesB : List S53 → List Int → Bool
  | [], _ => false
  | e :: l, cs => if allB e.f1 cs = true then !e.f0 else takesB l cs
def EntU (e : S53) : Prop := e.f1.length ≤ 9223372036854775807 ∧ ∀ b ∈ e.f1, BoxU b
def ComU (l : List S53) : Prop := l.length ≤ 9223372036854775807 ∧ ∀ e ∈ l, EntU e
theorem comU_of {l : List S53} (h : l.length ≤ 9223372036854775807 ∧ ∀ z_ ∈ l, good53 z_) : ComU l := ⟨h.1, fun e he => ⟨(h.2 e he).2.1, fun b hb => boxU_of ((h.2 e he).2.2 b hb)⟩⟩
theorem has_f (b : S50) (hb : BoxU b) (cs : List Int) (hc : LU cs) : cond_has.f b.f0 b.f1 cs = some (hasB b cs) := by
  unfold cond_has.f
  rw [if_pos hc.1]
  exact anyM_some _ _ cs (fun c h => in_f b hb c (hc.2 c h))
theorem not_any_not {α : Type} (l : List α) (p : α → Bool) : (!l.any (fun b => !p b)) = l.all p := by
  induction l with
  | nil => rfl
  | cons a l ih => simp only [List.any_cons, List.all_cons, Bool.not_or, Bool.not_not, ih]
theorem ent_f (e : S53) (he : EntU e) (cs : List Int) (hc : LU cs) : entM cs e = some (allB e.f1 cs) := by
  unfold entM
  rw [if_pos he.1, anyM_some _ (fun b => !hasB b cs) e.f1 (fun b hb => by rw [has_f b (he.2 b hb) cs hc]; rfl), Option.map_some, not_any_not]
  rfl
theorem takes_f0 (cs : List Int) (hc : LU cs) : ∀ l : List S53, (∀ e ∈ l, EntU e) → takesM cs l = some (takesB l cs)
  | [], _ => rfl
  | e :: l, h => by
    simp only [takesM, takesB]
    rw [ent_f e (h e List.mem_cons_self) cs hc, Option.bind_some]
    cases allB e.f1 cs with
    | true => rfl
    | false => simp only [Bool.false_eq_true, if_false]; exact takes_f0 cs hc l (fun x hx => h x (List.mem_cons_of_mem _ hx))
theorem takes_f (l : List S53) (hl : ComU l) (cs : List Int) (hc : LU cs) : cond_TakesComms.f l cs = some (takesB l cs) := by
  unfold cond_TakesComms.f
  rw [if_pos hl.1]
  exact takes_f0 cs hc l hl.2
/-! The document's. -/
theorem rdB (l : List S50) (i : Nat) (h : i < l.length) : rd_T50 l (i : Int) = l[i] := by
  unfold rd_T50
  rw [Int.toNat_natCast, List.getD_eq_getElem?_getD, List.getElem?_eq_getElem h]
  rfl
theorem all_l1 (cs : List Int) (hc : LU cs) (b : S50) (hb : BoxU b) (l : List S50) (n i : Int) (R : Bool) : ∀ (d j : Nat) (g : Bool), j + d = cs.length →
    Ev (fun k => if (g || (cs.drop j).any (fun c => inS c b)) = true then q18z.l0 k cs l n (wrap64 (i + 1)) else some false) R →
    Ev (fun k => q18z.l1 k cs g l n i cs (cs.length : Int) (j : Int) b.f0 b.f1) R
  | 0, j, g, hj, h => by
    rw [List.drop_eq_nil_of_le (by omega), List.any_nil, Bool.or_false] at h
    refine Ev.step (fun k => ?_) h
    simp only [q18z.l1]
    rw [if_neg (by omega)]
  | d + 1, j, g, hj, h => by
    have hjl : j < cs.length := by omega
    have hlen := hc.1
    have hrd := rdI cs j hjl
    have hu := hc.2 cs[j] (List.getElem_mem hjl)
    rw [List.drop_eq_getElem_cons hjl, List.any_cons] at h
    generalize cs[j] = c at hrd hu h
    have ih := all_l1 cs hc b hb l n i R d (j + 1) (g || inS c b) (by omega) (by simpa only [Bool.or_assoc] using h)
    cases g with
    | true =>
      rw [Bool.true_or] at ih
      refine Ev.step (fun k => ?_) ih
      simp only [q18z.l1, if_true]
      rw [if_pos (by omega), if_pos (by omega), if_pos (by omega), wrN j (by omega)]
    | false =>
      rw [Bool.false_or] at ih
      refine Ev.step (fun k => ?_) ih
      simp only [q18z.l1, Bool.false_eq_true, if_false]
      rw [if_pos (by omega), if_pos (by omega), if_pos (by omega), hrd, refIn_f b hb c hu, Option.bind_some, wrN j (by omega)]
theorem all_l0 (cs : List Int) (hc : LU cs) (l : List S50) (hl : l.length ≤ 9223372036854775807) (hb : ∀ b ∈ l, BoxU b) : ∀ (d i : Nat), i + d = l.length →
    Ev (fun k => q18z.l0 k cs l (l.length : Int) (i : Int)) (allB (l.drop i) cs)
  | 0, i, hi => by
    rw [List.drop_eq_nil_of_le (by omega)]
    refine Ev.last (fun k => ?_)
    simp only [q18z.l0]
    rw [if_neg (by omega)]
    rfl
  | d + 1, i, hi => by
    have hil : i < l.length := by omega
    have hrd := rdB l i hil
    have hu := hb l[i] (List.getElem_mem hil)
    have ih := all_l0 cs hc l hl hb d (i + 1) (by omega)
    rw [List.drop_eq_getElem_cons hil]
    generalize l[i] = b at hrd hu
    have hab : allB (b :: l.drop (i + 1)) cs = (hasB b cs && allB (l.drop (i + 1)) cs) := rfl
    rw [hab]
    have h1 := all_l1 cs hc b hu l (l.length : Int) (i : Int) (hasB b cs && allB (l.drop (i + 1)) cs) cs.length 0 false (by omega) (by
      rw [List.drop_zero, Bool.false_or]
      change Ev (fun k => if hasB b cs = true then _ else _) _
      cases hasB b cs with
      | true =>
        simp only [if_true, Bool.true_and]
        rw [wrN i (by omega)]
        exact ih
      | false => exact Ev.now _)
    refine Ev.step (fun k => ?_) h1
    simp only [q18z.l0]
    rw [if_pos (by omega), if_pos (by omega), if_pos (by omega), hrd]
    rfl
theorem refAll_ev (e : S53) (he : EntU e) (cs : List Int) (hc : LU cs) : Ev (fun k => q18z.f k e.f1 cs) (allB e.f1 cs) := by
  have h := all_l0 cs hc e.f1 he.1 he.2 e.f1.length 0 (by omega)
  rw [List.drop_zero] at h
  exact Ev.congr (fun k => rfl) h
theorem refTakes_l0 (cs : List Int) (hc : LU cs) (l : List S53) (hl : ComU l) : ∀ (d i : Nat), i + d = l.length → Ev (fun k => q19z.l0 k cs l (l.length : Int) (i : Int)) (takesB (l.drop i) cs)
  | 0, i, hi => by
    rw [List.drop_eq_nil_of_le (by omega)]
    refine Ev.last (fun k => ?_)
    simp only [q19z.l0]
    rw [if_neg (by omega)]
    rfl
  | d + 1, i, hi => by
    have hil : i < l.length := by omega
    have hll := hl.1
    have hrd := comm_getD l i hil
    have hu := hl.2 l[i] (List.getElem_mem hil)
    have ih := refTakes_l0 cs hc l hl d (i + 1) (by omega)
    rw [List.drop_eq_getElem_cons hil]
    generalize l[i] = e at hrd hu
    have h1 := refAll_ev e hu cs hc
    simp only [takesB]
    cases ha : allB e.f1 cs with
    | true =>
      rw [ha] at h1
      refine Ev.use h1 (Ev.now _) (fun k e1 => ?_)
      simp only [q19z.l0]
      rw [if_pos (by omega), if_pos (by omega), if_pos (by omega), hrd, e1]
      rfl
    | false =>
      rw [ha] at h1
      refine Ev.use h1 ih (fun k e1 => ?_)
      simp only [q19z.l0]
      rw [if_pos (by omega), if_pos (by omega), if_pos (by omega), hrd, e1, wrN i (by omega)]
      rfl
theorem refTakes_ev (l : List S53) (hl : ComU l) (cs : List Int) (hc : LU cs) : Ev (fun k => q19z.f k l cs) (takesB l cs) := by
  have h := refTakes_l0 cs hc l hl l.length 0 (by omega)
  rw [List.drop_zero] at h
  exact Ev.congr (fun k => rfl) h
end Go.Proofs.Ytgelpccjdndfoaa.P
namespace Go.Proofs.Ytgelpccjdndfoaa.P
open Go.Sort
/-! A sorted list with what is alike left out. -/
def cmpU (l : List Int) : List Int := Go.Lib.compactUpTo l.toArray l.length
theorem getB (l : List Int) (i : Nat) (h : i < l.length) : l.toArray[i]! = l[i] := by
  rw [getElem!_pos l.toArray i (by simpa using h)]
  simp
theorem cmpU_lt (l : List Int) (h : l.Pairwise (fun a b : Int => a ≤ b)) : (cmpU l).Pairwise (fun a b : Int => a < b) := by
  unfold cmpU Go.Lib.compactUpTo
  rw [List.pairwise_map, List.pairwise_filter, List.pairwise_iff_getElem]
  intro i j hi hj hij
  simp only [List.getElem_range]
  intro ki kj
  rw [List.length_range] at hi hj
  rw [List.pairwise_iff_getElem] at h
  simp only [Go.Lib.keeps, decide_eq_true_eq] at kj
  rcases kj with kj | kj
  · omega
  · have e : j - 1 + 1 = j := by omega
    rw [getB l i hi, getB l j hj]
    rw [getB l j hj, getB l (j - 1) (by omega)] at kj
    have h1 := h (j - 1) j (by omega) hj (by omega)
    rcases Nat.lt_or_ge i (j - 1) with h2 | h2
    · have h3 := h i (j - 1) hi (by omega) h2
      omega
    · have e2 : i = j - 1 := by omega
      subst e2
      omega
theorem cmpU_sub (l : List Int) (x : Int) (hx : x ∈ cmpU l) : x ∈ l := by
  unfold cmpU Go.Lib.compactUpTo at hx
  rw [List.mem_map] at hx
  obtain ⟨i, hi, rfl⟩ := hx
  have hi' := List.mem_range.1 (List.mem_filter.1 hi).1
  rw [getB l i hi']
  exact List.getElem_mem hi'
theorem cmpU_sup (l : List Int) : ∀ i (h : i < l.length), l[i] ∈ cmpU l := by
  intro i
  induction i with
  | zero =>
    intro h
    unfold cmpU Go.Lib.compactUpTo
    rw [List.mem_map]
    exact ⟨0, List.mem_filter.2 ⟨List.mem_range.2 h, by simp [Go.Lib.keeps]⟩, getB l 0 h⟩
  | succ i ih =>
    intro h
    by_cases e : l[i + 1] = l[i]
    · rw [e]; exact ih (by omega)
    · unfold cmpU Go.Lib.compactUpTo
      rw [List.mem_map]
      refine ⟨i + 1, List.mem_filter.2 ⟨List.mem_range.2 h, ?_⟩, getB l (i + 1) h⟩
      simp only [Go.Lib.keeps, decide_eq_true_eq]
      refine .inr ?_
      rw [getB l (i + 1) h, Nat.add_sub_cancel, getB l i (by omega)]
      exact e
theorem cmpU_mem (l : List Int) (x : Int) : x ∈ cmpU l ↔ x ∈ l := by
  constructor
  · exact cmpU_sub l x
  · intro h
    obtain ⟨i, hi, rfl⟩ := List.getElem_of_mem h
    exact cmpU_sup l i hi
theorem cmpU_le (l : List Int) : (cmpU l).length ≤ l.length := by
  unfold cmpU Go.Lib.compactUpTo
  rw [List.length_map]
  exact Nat.le_trans (List.length_filter_le _ _) (by simp)
theorem lt_unique : ∀ (l r : List Int), l.Pairwise (fun a b : Int => a < b) → r.Pairwise (fun a b : Int => a < b) → (∀ x, x ∈ l ↔ x ∈ r) → l = r
  | [], [], _, _, _ => rfl
  | [], y :: t, _, _, h => by have := (h y).2 (List.mem_cons_self ..); simp at this
  | x :: s, [], _, _, h => by have := (h x).1 (List.mem_cons_self ..); simp at this
  | x :: s, y :: t, h1, h2, h => by
    rw [List.pairwise_cons] at h1 h2
    have hxy : x = y := by
      rcases List.mem_cons.1 ((h x).1 (List.mem_cons_self ..)) with e | e
      · exact e
      · rcases List.mem_cons.1 ((h y).2 (List.mem_cons_self ..)) with e2 | e2
        · exact e2.symm
        · have a1 := h2.1 x e
          have a2 := h1.1 y e2
          omega
    subst hxy
    rw [lt_unique s t h1.2 h2.2]
    intro z
    constructor
    · intro hz
      rcases List.mem_cons.1 ((h z).1 (List.mem_cons_of_mem _ hz)) with e | e
      · have := h1.1 z hz; omega
      · exact e
    · intro hz
      rcases List.mem_cons.1 ((h z).2 (List.mem_cons_of_mem _ hz)) with e | e
      · have := h2.1 z hz; omega
      · exact e
/-- A list's numbers, each once, rising. -/
def setU (l : List Int) : List Int := cmpU (sortU l)
theorem setU_lt (l : List Int) : (setU l).Pairwise (fun a b : Int => a < b) := cmpU_lt _ (sortU_pair l)
theorem setU_mem (l : List Int) (x : Int) : x ∈ setU l ↔ x ∈ l := (cmpU_mem _ x).trans (sortU_mem l x)
theorem setU_le (l : List Int) : (setU l).length ≤ l.length := Nat.le_trans (cmpU_le _) (Nat.le_of_eq (sortU_len l))
end Go.Proofs.Ytgelpccjdndfoaa.P
namespace Go.Proofs.Ytgelpccjdndfoaa.P
open Go.RowKit
/-! A list of numbers that rise, with one more; with many more. -/
def Rising (l : List Int) : Prop := l.Pairwise (· < ·)
def ins (n : Int) (l : List Int) : List Int :=
  match l.dropWhile (fun a => decide (a < n)) with
  | [] => l ++ [n]
  | a :: r => if a = n then l else l.takeWhile (fun a => decide (a < n)) ++ n :: (a :: r)
theorem ins_split (n : Int) : ∀ l : List Int, l = l.takeWhile (fun a => decide (a < n)) ++ l.dropWhile (fun a => decide (a < n)) := fun l => List.takeWhile_append_dropWhile.symm
theorem tw_lt (n : Int) (l : List Int) : ∀ x ∈ l.takeWhile (fun a => decide (a < n)), x < n := by
  induction l with
  | nil => intro x hx; simp at hx
  | cons a r ih =>
    intro x hx
    rw [List.takeWhile_cons] at hx
    split at hx
    · rename_i h
      rcases List.mem_cons.1 hx with rfl | hx
      · simpa using h
      · exact ih x hx
    · simp at hx
theorem dw_head (n : Int) (l : List Int) (a : Int) (r : List Int) (h : l.dropWhile (fun a => decide (a < n)) = a :: r) : n ≤ a := by
  induction l with
  | nil => simp at h
  | cons b t ih =>
    rw [List.dropWhile_cons] at h
    split at h
    · exact ih h
    · rename_i hb
      obtain ⟨rfl, rfl⟩ := List.cons.inj h
      have : ¬ b < n := by simpa using hb
      omega
theorem mem_ins (n : Int) (l : List Int) (x : Int) : x ∈ ins n l ↔ x = n ∨ x ∈ l := by
  unfold ins
  split
  · simp [or_comm]
  · rename_i a r h
    have hs := ins_split n l
    rw [h] at hs
    split
    · rename_i ha
      subst ha
      constructor
      · exact .inr
      · rintro (rfl | hx)
        · rw [hs]; simp
        · exact hx
    · generalize l.takeWhile (fun a => decide (a < n)) = p at hs
      subst hs
      simp only [List.mem_append, List.mem_cons]
      constructor
      · rintro (h1 | h1 | h1 | h1) <;> simp [h1]
      · rintro (h1 | h1 | h1 | h1) <;> simp [h1]
theorem rising_ins (n : Int) (l : List Int) (hl : Rising l) : Rising (ins n l) := by
  unfold ins
  have hs := ins_split n l
  have ht := tw_lt n l
  split
  · rename_i h
    rw [h, List.append_nil] at hs
    unfold Rising
    rw [List.pairwise_append]
    refine ⟨hl, List.pairwise_singleton _ _, fun a ha b hb => ?_⟩
    rw [List.mem_singleton.1 hb]
    exact ht a (hs ▸ ha)
  · rename_i a r h
    have ha := dw_head n l a r h
    rw [h] at hs
    split
    · exact hl
    · rename_i hne
      generalize l.takeWhile (fun a => decide (a < n)) = p at hs ht
      subst hs
      unfold Rising at hl ⊢
      rw [List.pairwise_append] at hl ⊢
      obtain ⟨h1, h2, h3⟩ := hl
      refine ⟨h1, ?_, fun x hx y hy => ?_⟩
      · rw [List.pairwise_cons]
        refine ⟨fun y hy => ?_, h2⟩
        rw [List.pairwise_cons] at h2
        rcases List.mem_cons.1 hy with rfl | hy
        · omega
        · have := h2.1 y hy; omega
      · rcases List.mem_cons.1 hy with rfl | hy
        · exact ht x hx
        · exact h3 x hx y hy
theorem length_ins (n : Int) (l : List Int) : (ins n l).length ≤ l.length + 1 := by
  unfold ins
  split
  · simp
  · rename_i a r h
    have hs := congrArg List.length (ins_split n l)
    rw [h] at hs
    split
    · omega
    · simp only [List.length_append, List.length_cons] at hs ⊢
      omega

def insAll : List Int → List Int → List Int
  | out, [] => out
  | out, c :: cs => insAll (ins c out) cs
theorem insAll_spec : ∀ (cs out : List Int), Rising out → Rising (insAll out cs) ∧ (∀ x, x ∈ insAll out cs ↔ x ∈ out ∨ x ∈ cs) ∧ (insAll out cs).length ≤ out.length + cs.length
  | [], out, h => ⟨h, fun x => by simp [insAll], by simp [insAll]⟩
  | c :: cs, out, h => by
    obtain ⟨q1, q2, q3⟩ := insAll_spec cs (ins c out) (rising_ins c out h)
    have hl := length_ins c out
    refine ⟨q1, fun x => ?_, by simp only [insAll, List.length_cons]; omega⟩
    simp only [insAll]
    rw [q2, mem_ins, List.mem_cons]
    constructor
    · rintro ((h | h) | h)
      · exact .inr (.inl h)
      · exact .inl h
      · exact .inr (.inr h)
    · rintro (h | h | h)
      · exact .inl (.inr h)
      · exact .inl (.inl h)
      · exact .inr h
theorem insAll_nil (cs : List Int) : insAll [] cs = setU cs := by
  obtain ⟨q1, q2, _⟩ := insAll_spec cs [] List.Pairwise.nil
  refine lt_unique _ _ q1 (setU_lt _) (fun x => ?_)
  rw [q2, setU_mem]
  simp
end Go.Proofs.Ytgelpccjdndfoaa.P
namespace Go.Proofs.Ytgelpccjdndfoaa.P
open Go.RowKit Go.Proofs.YtgelpccjdndfoaaW.PrintWords Go.Proofs.YtgelpccjdndfoaaW.PrintMore
/-! The document's Sorted: each once, rising. -/
theorem sorted_l2 (n : Int) (xs : List Int) (xn xi : Int) (R : List Int) (p : List Int) : ∀ (q s : List Int) (z : Int), p.length + q.length + s.length ≤ 1000000000 →
    Ev (fun k => q20z.l0 k (p ++ n :: (q ++ s)) xs xn (wrap64 (xi + 1))) R →
    Ev (fun k => q20z.l2 k (p ++ q ++ [z] ++ s) n (p.length : Int) ((p.length + q.length : Nat) : Int) xs xn xi) R := by
  intro q
  induction h : q.length generalizing q with
  | zero =>
    intro s z hl hR
    have hq : q = [] := List.length_eq_zero_iff.1 h
    subst hq
    refine Ev.step (fun k => ?_) hR
    simp only [q20z.l2]
    rw [if_neg (by omega), if_pos (by omega), if_pos (by simp; omega), Int.toNat_natCast]
    simp
  | succ m ih =>
    intro s z hl hR
    rcases List.eq_nil_or_concat q with rfl | ⟨q', y, rfl⟩
    · simp at h
    · rw [List.concat_eq_append] at *
      have hq' : q'.length = m := by simpa using h
      have e1 := ih q' hq' (y :: s) y (by simp only [List.length_cons]; omega) (by
        have : p ++ n :: (q' ++ y :: s) = p ++ n :: (q' ++ [y] ++ s) := by simp
        rw [this]; exact hR)
      refine Ev.step (fun k => ?_) e1
      simp only [q20z.l2]
      have hw : wrap64 (((p.length + (m + 1) : Nat) : Int) - 1) = ((p.length + m : Nat) : Int) := by rw [wr _ (by omega) (by omega)]; omega
      have hr : rd (p ++ (q' ++ [y]) ++ [z] ++ s) ((p.length + m : Nat) : Int) = y := by
        rw [rdI _ _ (by simp; omega)]
        simp [List.getElem_append, hq']
      rw [if_pos (by omega), hw, if_pos (by omega), if_pos (by simp; omega), if_pos (by omega), if_pos (by simp; omega), hr, Int.toNat_natCast]
      congr 1
      have : p ++ (q' ++ [y]) ++ [z] ++ s = (p ++ q' ++ [y]) ++ (z :: s) := by simp
      rw [this, List.set_append_right _ _ (by simp; omega)]
      have : p.length + (m + 1) - (p ++ q' ++ [y]).length = 0 := by simp; omega
      rw [this]
      simp
theorem sorted_l1 (l : List Int) (n : Int) (hl : l.length ≤ 900000000) (xs : List Int) (xn xi : Int) (R : List Int) : ∀ (q p : List Int), l = p ++ q → (∀ a ∈ p, a < n) →
    Ev (fun k => q20z.j2 k l n (((p ++ q.takeWhile (fun a => decide (a < n))).length : Nat) : Int) xs xn xi) R → Ev (fun k => q20z.l1 k l n (p.length : Int) xs xn xi) R
  | [], p, hp, _, h => by
    rw [List.append_nil] at hp
    subst hp
    refine Ev.step (fun k => ?_) h
    simp only [q20z.l1]
    rw [if_neg (by omega), List.takeWhile_nil, List.append_nil]
  | a :: q, p, hp, hlt, h => by
    have hpl : p.length < l.length := by rw [hp]; simp
    have hr : rd l (p.length : Int) = a := by
      rw [rdI l _ hpl]
      simp [hp]
    by_cases ha : a < n
    · rw [List.takeWhile_cons_of_pos (by simpa using ha)] at h
      refine Ev.step (fun k => ?_) (sorted_l1 l n hl xs xn xi R q (p ++ [a]) (by rw [hp]; simp) (fun x hx => by
        rcases List.mem_append.1 hx with hx | hx
        · exact hlt x hx
        · rw [List.mem_singleton.1 hx]; exact ha) (by rw [List.append_assoc, List.singleton_append]; exact h))
      simp only [q20z.l1]
      rw [if_pos (by omega), if_pos (by omega), hr, if_pos ha, wrN _ (by omega), List.length_append, List.length_singleton]
    · rw [List.takeWhile_cons_of_neg (by simpa using ha), List.append_nil] at h
      refine Ev.step (fun k => ?_) h
      simp only [q20z.l1]
      rw [if_pos (by omega), if_pos (by omega), hr, if_neg ha]
theorem sorted_step (l : List Int) (n : Int) (hl : l.length ≤ 900000000) (xs : List Int) (xn xi : Int) (R : List Int) (hR : Ev (fun k => q20z.l0 k (ins n l) xs xn (wrap64 (xi + 1))) R) : Ev (fun k => q20z.l1 k l n 0 xs xn xi) R := by
  have h0 : Ev (fun k => q20z.l1 k l n (([] : List Int).length : Int) xs xn xi) R := by
    refine sorted_l1 l n hl xs xn xi R l [] rfl (fun a h => (List.not_mem_nil h).elim) ?_
    rw [List.nil_append]
    have hs := ins_split n l
    unfold ins at hR
    cases hd : l.dropWhile (fun a => decide (a < n)) with
    | nil =>
      rw [hd] at hR
      rw [hd, List.append_nil] at hs
      simp only at hR
      rw [← hs]
      refine Ev.step (f := fun k => q20z.j3 k l n (l.length : Int) xs xn xi false) (fun k => ?_) (Ev.step (f := fun k => q20z.l2 k (l ++ [0]) n (l.length : Int) (l.length : Int) xs xn xi) (fun k => ?_) ?_)
      · simp only [q20z.j2]
        rw [if_neg (by omega)]
      · simp only [q20z.j3]
        rw [if_neg (by decide), if_pos (by omega), Option.bind_some, wr _ (by simp only [List.length_append, List.length_singleton]; omega) (by simp only [List.length_append, List.length_singleton]; omega)]
        congr 1
        simp
      · have := sorted_l2 n xs xn xi R l [] [] 0 (by simp; omega) (by simpa using hR)
        simpa using this
    | cons a r =>
      rw [hd] at hs hR
      have hal : (l.takeWhile (fun a => decide (a < n))).length < l.length := by
        have := congrArg List.length hs
        simp only [List.length_append, List.length_cons] at this
        omega
      generalize hp : l.takeWhile (fun a => decide (a < n)) = p at hs hal hR ⊢
      have hr : rd l (p.length : Int) = a := by
        rw [rdI l _ hal]
        simp [hs]
      simp only at hR
      by_cases ha : a = n
      · rw [if_pos ha] at hR
        refine Ev.step (f := fun k => q20z.j3 k l n (p.length : Int) xs xn xi true) (fun k => ?_) (Ev.step (fun k => ?_) hR)
        · simp only [q20z.j2]
          rw [if_pos (by omega), if_pos (by omega), hr, ha]
          simp
        · simp only [q20z.j3]
          rw [if_pos trivial]
      · rw [if_neg ha] at hR
        refine Ev.step (f := fun k => q20z.j3 k l n (p.length : Int) xs xn xi false) (fun k => ?_) (Ev.step (f := fun k => q20z.l2 k (l ++ [0]) n (p.length : Int) (l.length : Int) xs xn xi) (fun k => ?_) ?_)
        · simp only [q20z.j2]
          rw [if_pos (by omega), if_pos (by omega), hr, show (a == n) = false from by simpa using ha]
        · simp only [q20z.j3]
          rw [if_neg (by decide), if_pos (by omega), Option.bind_some, wr _ (by simp only [List.length_append, List.length_singleton]; omega) (by simp only [List.length_append, List.length_singleton]; omega)]
          congr 1
          simp
        · have h1 := sorted_l2 n xs xn xi R p (a :: r) [] 0 (by have := congrArg List.length hs; simp only [List.length_append, List.length_cons, List.length_nil] at this ⊢; omega) (by rw [List.append_nil]; exact hR)
          have e1 : p ++ a :: r ++ [0] ++ [] = l ++ [0] := by rw [List.append_nil, ← hs]
          have e2 : p.length + (a :: r).length = l.length := by rw [← List.length_append, ← hs]
          rw [e1, e2] at h1
          exact h1
  exact h0
theorem sorted_l0 (xs : List Int) (hx : xs.length ≤ 900000000) : ∀ (d i : Nat) (out : List Int), i + d = xs.length → out.length + d ≤ 900000000 → Ev (fun k => q20z.l0 k out xs (xs.length : Int) (i : Int)) (insAll out (xs.drop i))
  | 0, i, out, hi, ho => by
    rw [List.drop_eq_nil_of_le (by omega)]
    refine Ev.last (fun k => ?_)
    simp only [q20z.l0]
    rw [if_neg (by omega)]
    rfl
  | d + 1, i, out, hi, ho => by
    have hil : i < xs.length := by omega
    have hln := length_ins xs[i] out
    rw [List.drop_eq_getElem_cons hil]
    simp only [insAll]
    have ih := sorted_l0 xs hx d (i + 1) (ins xs[i] out) (by omega) (by omega)
    refine Ev.step (fun k => ?_) (sorted_step out xs[i] (by omega) xs (xs.length : Int) (i : Int) _ (by rw [wrN i (by omega)]; exact ih))
    simp only [q20z.l0]
    rw [if_pos (by omega), if_pos (by omega), if_pos (by omega), rdI xs i hil]
theorem sorted_ev (xs : List Int) (hx : xs.length ≤ 400000000) : Ev (fun k => q20z.f k xs) (setU xs) := by
  have h := sorted_l0 xs (by omega) xs.length 0 [] (by omega) (by simp; omega)
  rw [List.drop_zero, insAll_nil] at h
  exact Ev.congr (fun k => rfl) h
/-! Is there a zero? -/
def hasZ (l : List Int) : Bool := l.any (fun z => decide (z = 0))
theorem index_l0 (l : List Int) (hl : l.length ≤ 9223372036854775807) : ∀ (d i : Nat), i + d = l.length → ∃ r : Int, Ev (fun k => q5z.l0 k l 0 (l.length : Int) (i : Int)) r ∧ decide (r ≥ 0) = hasZ (l.drop i)
  | 0, i, hi => by
    refine ⟨-1, Ev.step (f := fun _ => some (-1)) (fun k => ?_) (Ev.now _), ?_⟩
    · simp only [q5z.l0]
      rw [if_neg (by omega)]
    · rw [drop_ge l i (by omega)]; rfl
  | d + 1, i, hi => by
    have h : i < l.length := by omega
    rw [List.drop_eq_getElem_cons h]
    by_cases e : l[i] = 0
    · refine ⟨i, Ev.step (f := fun _ => some (i : Int)) (fun k => ?_) (Ev.now _), ?_⟩
      · simp only [q5z.l0]
        rw [if_pos (by omega), if_pos (by omega), if_pos (by omega), rdI l i h, if_pos e.symm]
      · simp [hasZ, e]
    · obtain ⟨r, h1, h2⟩ := index_l0 l hl d (i + 1) (by omega)
      refine ⟨r, Ev.step (f := fun k => q5z.l0 k l 0 (l.length : Int) ((i + 1 : Nat) : Int)) (fun k => ?_) h1, ?_⟩
      · simp only [q5z.l0]
        rw [if_pos (by omega), if_pos (by omega), if_pos (by omega), rdI l i h, if_neg (fun z => e z.symm), wrN i (by omega)]
      · rw [h2]; simp only [hasZ, List.any_cons, e, decide_false, Bool.false_or]
theorem contains_ev (l : List Int) (hl : l.length ≤ 9223372036854775807) : Ev (fun k => q6z.f k l 0) (hasZ l) := by
  obtain ⟨r, ⟨K, h1⟩, h2⟩ := index_l0 l hl l.length 0 (by omega)
  rw [List.drop_zero] at h2
  refine ⟨K, fun k hk => ?_⟩
  have := h1 k hk
  unfold q6z.f q5z.f
  exact (congrArg (fun z => Option.bind z fun t => some (decide (t ≥ 0))) this).trans (congrArg some h2)
/-! Actions: what the code and the document make. -/
abbrev AC := S26
def AU (a : AC) : Prop := I64 a.f0 ∧ U32 a.f1 ∧ LU a.f2 ∧ ComU a.f3
theorem aU_of {a : AC} (h : good26 a) : AU a := ⟨i64_of h.1, u32_of h.2.1, lu_of h.2.2.1, comU_of h.2.2.2⟩
def rightB (a : AC) : Bool :=
  if a.f0 = 1 ∨ a.f0 = 2 ∨ a.f0 = 4 then true else if a.f0 = 3 then decide (a.f1 ≤ 2) else if a.f0 = 5 then decide (a.f2.length ≤ 64) && !hasZ a.f2 else if a.f0 = 6 ∨ a.f0 = 7 then decide (a.f2.length ≤ 64) else if a.f0 = 8 then commsRight a.f3 else false
theorem act_right_j0 (a : AC) (ha : AU a) (h1 : a.f0 ≠ 1) (h2 : a.f0 ≠ 2) (g : Bool) (hg : g = (a.f0 == 4)) : Ev (fun k => q7z.j0 k (decide ((a.f2.length : Int) ≤ 64)) a.f0 g a.f0 a.f1 a.f2 a.f3) (rightB a) := by
  have hd : decide ((a.f2.length : Int) ≤ 64) = decide (a.f2.length ≤ 64) := decide_eq_decide.2 (by omega)
  rw [hd, hg]
  unfold rightB
  by_cases h4 : a.f0 = 4
  · rw [if_pos (.inr (.inr h4))]
    refine Ev.last (fun k => ?_)
    simp only [q7z.j0]
    rw [if_pos (by simp [h4])]
  · rw [if_neg (by omega)]
    by_cases h3 : a.f0 = 3
    · rw [if_pos h3]
      refine Ev.last (fun k => ?_)
      simp only [q7z.j0]
      rw [if_neg (by simp [h4]), if_pos h3]
    · rw [if_neg h3]
      by_cases h5 : a.f0 = 5
      · rw [if_pos h5]
        refine Ev.use (contains_ev a.f2 ha.2.2.1.1) (Ev.now _) (fun k e => ?_)
        simp only [q7z.j0]
        rw [if_neg (by simp [h4]), if_neg h3, if_pos h5]
        cases decide (a.f2.length ≤ 64) with
        | true => rw [if_pos rfl, e]; simp
        | false => rfl
      · rw [if_neg h5]
        have hj : ∀ g2 : Bool, (g2 = true → a.f0 = 6 ∨ a.f0 = 7) → (g2 = false → ¬ (a.f0 = 6 ∨ a.f0 = 7)) → Ev (fun k => q7z.j1 k (decide (a.f2.length ≤ 64)) a.f0 g2 a.f0 a.f1 a.f2 a.f3) (if a.f0 = 6 ∨ a.f0 = 7 then decide (a.f2.length ≤ 64) else if a.f0 = 8 then commsRight a.f3 else false) := fun g2 q1 q2 => by
          refine Ev.last (fun k => ?_)
          simp only [q7z.j1]
          cases g2 with
          | true => rw [if_pos rfl, if_pos (q1 rfl)]
          | false =>
            rw [if_neg (by decide), if_neg (q2 rfl)]
            by_cases h8 : a.f0 = 8
            · rw [if_pos h8, if_pos h8]; rfl
            · rw [if_neg h8, if_neg h8]
        by_cases h6 : a.f0 = 6
        · refine Ev.step (fun k => ?_) (hj (a.f0 == 6) (fun h => .inl (by simpa using h)) (fun h => by simp [h6] at h))
          simp only [q7z.j0]
          rw [if_neg (by simp [h4]), if_neg h3, if_neg h5, if_pos h6]
        · refine Ev.step (fun k => ?_) (hj (a.f0 == 7) (fun h => .inr (by simpa using h)) (fun h => by simp at h; omega))
          simp only [q7z.j0]
          rw [if_neg (by simp [h4]), if_neg h3, if_neg h5, if_neg h6]
theorem actRight_ev (a : AC) (ha : AU a) : Ev (fun k => q7z.f k a.f0 a.f1 a.f2 a.f3) (rightB a) := by
  have hb : ∀ g : Bool, g = true → (a.f0 = 1 ∨ a.f0 = 2) → Ev (fun k => q7z.j0 k (decide ((a.f2.length : Int) ≤ 64)) a.f0 g a.f0 a.f1 a.f2 a.f3) (rightB a) := fun g hg h => by
    unfold rightB
    rw [if_pos (by omega)]
    refine Ev.last (fun k => ?_)
    simp only [q7z.j0]
    rw [if_pos hg]
  by_cases h1 : a.f0 = 1
  · refine Ev.congr (fun k => ?_) (hb (a.f0 == 1) (by simp [h1]) (.inl h1))
    unfold q7z.f
    rw [if_pos h1]
  · by_cases h2 : a.f0 = 2
    · refine Ev.congr (fun k => ?_) (hb (a.f0 == 2) (by simp [h2]) (.inr h2))
      unfold q7z.f
      rw [if_neg h1, if_pos h2]
    · refine Ev.congr (fun k => ?_) (act_right_j0 a ha h1 h2 _ rfl)
      unfold q7z.f
      rw [if_neg h1, if_neg h2]
/-! The document's. -/
theorem commsRight_l0 (l : List S53) (hl : l.length ≤ 64) : ∀ (d i : Nat), i + d = l.length → Ev (fun k => q12z.l0 k l (l.length : Int) (i : Int)) (!((l.drop i).any (fun e => decide (64 < e.f1.length))))
  | 0, i, hi => by
    rw [List.drop_eq_nil_of_le (by omega)]
    refine Ev.last (fun k => ?_)
    simp only [q12z.l0]
    rw [if_neg (by omega)]
    rfl
  | d + 1, i, hi => by
    have hil : i < l.length := by omega
    have hrd := comm_getD l i hil
    have ih := commsRight_l0 l hl d (i + 1) (by omega)
    rw [List.drop_eq_getElem_cons hil, List.any_cons]
    generalize l[i] = e at hrd
    by_cases h : 64 < e.f1.length
    · rw [decide_eq_true h, Bool.true_or]
      refine Ev.last (fun k => ?_)
      simp only [q12z.l0]
      rw [if_pos (by omega), if_pos (by omega), if_pos (by omega), hrd, if_pos (by omega)]
      rfl
    · rw [decide_eq_false h, Bool.false_or]
      refine Ev.step (fun k => ?_) ih
      simp only [q12z.l0]
      rw [if_pos (by omega), if_pos (by omega), if_pos (by omega), hrd, if_neg (by omega), wrN i (by omega)]
theorem commsRight_ev (l : List S53) : Ev (fun k => q12z.f k l) (commsRight l) := by
  unfold commsRight
  by_cases h : l.length ≤ 64
  · have h0 := commsRight_l0 l h l.length 0 (by omega)
    rw [List.drop_zero] at h0
    rw [decide_eq_true h, Bool.true_and]
    refine Ev.congr (fun k => ?_) h0
    unfold q12z.f
    rw [if_neg (by omega)]
    rfl
  · rw [decide_eq_false h, Bool.false_and]
    refine Ev.congr (fun k => ?_) (Ev.now _)
    unfold q12z.f
    rw [if_pos (by omega)]
theorem refRight_l0 (a : AC) (l : List Int) (hl : LU l) : ∀ (d i : Nat), i + d = l.length → Ev (fun k => q13z.l0 k l (l.length : Int) (i : Int) a.f0 a.f1 a.f2 a.f3) (decide (a.f2.length ≤ 64) && !hasZ (l.drop i))
  | 0, i, hi => by
    rw [List.drop_eq_nil_of_le (by omega)]
    refine Ev.last (fun k => ?_)
    simp only [q13z.l0]
    rw [if_neg (by omega), show hasZ [] = false from rfl, Bool.not_false, Bool.and_true]
    exact congrArg some (decide_eq_decide.2 (by omega))
  | d + 1, i, hi => by
    have hil : i < l.length := by omega
    have hln := hl.1
    have hrd := rdI l i hil
    have ih := refRight_l0 a l hl d (i + 1) (by omega)
    rw [List.drop_eq_getElem_cons hil]
    generalize l[i] = x at hrd
    by_cases h : x = 0
    · have hz : hasZ (x :: l.drop (i + 1)) = true := by simp [hasZ, h]
      rw [hz, Bool.not_true, Bool.and_false]
      refine Ev.last (fun k => ?_)
      simp only [q13z.l0]
      rw [if_pos (by omega), if_pos (by omega), if_pos (by omega), hrd, if_pos h]
    · have hz : hasZ (x :: l.drop (i + 1)) = hasZ (l.drop (i + 1)) := by simp [hasZ, h]
      rw [hz]
      refine Ev.step (fun k => ?_) ih
      simp only [q13z.l0]
      rw [if_pos (by omega), if_pos (by omega), if_pos (by omega), hrd, if_neg h, wrN i (by omega)]
theorem refRight_j0 (a : AC) (ha : AU a) (h1 : a.f0 ≠ 1) (h2 : a.f0 ≠ 2) (g : Bool) (hg : g = (a.f0 == 4)) : Ev (fun k => q13z.j0 k a.f0 g a.f0 a.f1 a.f2 a.f3) (rightB a) := by
  rw [hg]
  unfold rightB
  by_cases h4 : a.f0 = 4
  · rw [if_pos (.inr (.inr h4))]
    refine Ev.last (fun k => ?_)
    simp only [q13z.j0]
    rw [if_pos (by simp [h4])]
  · rw [if_neg (by omega)]
    by_cases h3 : a.f0 = 3
    · rw [if_pos h3]
      refine Ev.last (fun k => ?_)
      simp only [q13z.j0]
      rw [if_neg (by simp [h4]), if_pos h3]
    · rw [if_neg h3]
      by_cases h5 : a.f0 = 5
      · rw [if_pos h5]
        have h0 := refRight_l0 a a.f2 ha.2.2.1 a.f2.length 0 (by omega)
        rw [List.drop_zero] at h0
        refine Ev.step (fun k => ?_) h0
        simp only [q13z.j0]
        rw [if_neg (by simp [h4]), if_neg h3, if_pos h5]
        rfl
      · rw [if_neg h5]
        have hj : ∀ g2 : Bool, (g2 = true → a.f0 = 6 ∨ a.f0 = 7) → (g2 = false → ¬ (a.f0 = 6 ∨ a.f0 = 7)) → Ev (fun k => q13z.j2 k a.f0 g2 a.f0 a.f1 a.f2 a.f3) (if a.f0 = 6 ∨ a.f0 = 7 then decide (a.f2.length ≤ 64) else if a.f0 = 8 then commsRight a.f3 else false) := fun g2 q1 q2 => by
          cases g2 with
          | true =>
            rw [if_pos (q1 rfl)]
            refine Ev.last (fun k => ?_)
            simp only [q13z.j2]
            rw [if_pos trivial]
            exact congrArg some (decide_eq_decide.2 (by omega))
          | false =>
            rw [if_neg (q2 rfl)]
            by_cases h8 : a.f0 = 8
            · rw [if_pos h8]
              refine Ev.use (commsRight_ev a.f3) (Ev.now _) (fun k e => ?_)
              simp only [q13z.j2]
              rw [if_neg (by decide), if_pos h8, e]
              rfl
            · rw [if_neg h8]
              refine Ev.last (fun k => ?_)
              simp only [q13z.j2]
              rw [if_neg (by decide), if_neg h8]
        by_cases h6 : a.f0 = 6
        · refine Ev.step (fun k => ?_) (hj (a.f0 == 6) (fun h => .inl (by simpa using h)) (fun h => by simp [h6] at h))
          simp only [q13z.j0]
          rw [if_neg (by simp [h4]), if_neg h3, if_neg h5, if_pos h6]
        · refine Ev.step (fun k => ?_) (hj (a.f0 == 7) (fun h => .inr (by simpa using h)) (fun h => by simp at h; omega))
          simp only [q13z.j0]
          rw [if_neg (by simp [h4]), if_neg h3, if_neg h5, if_neg h6]
theorem refRight_ev (a : AC) (ha : AU a) : Ev (fun k => q13z.f k a.f0 a.f1 a.f2 a.f3) (rightB a) := by
  have hb : ∀ g : Bool, g = true → (a.f0 = 1 ∨ a.f0 = 2) → Ev (fun k => q13z.j0 k a.f0 g a.f0 a.f1 a.f2 a.f3) (rightB a) := fun g hg h => by
    unfold rightB
    rw [if_pos (by omega)]
    refine Ev.last (fun k => ?_)
    simp only [q13z.j0]
    rw [if_pos hg]
  by_cases h1 : a.f0 = 1
  · refine Ev.congr (fun k => ?_) (hb (a.f0 == 1) (by simp [h1]) (.inl h1))
    unfold q13z.f
    rw [if_pos h1]
  · by_cases h2 : a.f0 = 2
    · refine Ev.congr (fun k => ?_) (hb (a.f0 == 2) (by simp [h2]) (.inr h2))
      unfold q13z.f
      rw [if_neg h1, if_pos h2]
    · refine Ev.congr (fun k => ?_) (refRight_j0 a ha h1 h2 _ rfl)
      unfold q13z.f
      rw [if_neg h1, if_neg h2]
/-! A route with an action done. -/
def doR (a : AC) (r : R8) : R8 :=
  if rightB a = false then r
  else if a.f0 = 1 then (r.1, r.2.1, r.2.2.1, r.2.2.2.1, a.f1, r.2.2.2.2.2.1, r.2.2.2.2.2.2.1, r.2.2.2.2.2.2.2)
  else if a.f0 = 2 then (r.1, r.2.1, r.2.2.1, r.2.2.2.1, r.2.2.2.2.1, a.f1, r.2.2.2.2.2.2.1, r.2.2.2.2.2.2.2)
  else if a.f0 = 3 then (r.1, r.2.1, r.2.2.1, r.2.2.2.1, r.2.2.2.2.1, r.2.2.2.2.2.1, a.f1, r.2.2.2.2.2.2.2)
  else if a.f0 = 4 then (r.1, r.2.1, r.2.2.1, r.2.2.2.1, r.2.2.2.2.1, r.2.2.2.2.2.1, r.2.2.2.2.2.2.1, a.f1)
  else if a.f0 = 5 then (r.1, r.2.1, a.f2 ++ r.2.2.1, r.2.2.2.1, r.2.2.2.2.1, r.2.2.2.2.2.1, r.2.2.2.2.2.2.1, r.2.2.2.2.2.2.2)
  else if a.f0 = 6 then (r.1, r.2.1, r.2.2.1, setU (r.2.2.2.1 ++ a.f2), r.2.2.2.2.1, r.2.2.2.2.2.1, r.2.2.2.2.2.2.1, r.2.2.2.2.2.2.2)
  else if a.f0 = 7 then (r.1, r.2.1, r.2.2.1, setU a.f2, r.2.2.2.2.1, r.2.2.2.2.2.1, r.2.2.2.2.2.2.1, r.2.2.2.2.2.2.2)
  else (r.1, r.2.1, r.2.2.1, setU (r.2.2.2.1.filter (fun c => !takesB a.f3 [c])), r.2.2.2.2.1, r.2.2.2.2.2.1, r.2.2.2.2.2.2.1, r.2.2.2.2.2.2.2)
theorem rightB_len (a : AC) (h : rightB a = true) (h2 : a.f0 = 5 ∨ a.f0 = 6 ∨ a.f0 = 7) : a.f2.length ≤ 64 := by
  unfold rightB at h
  rw [if_neg (by omega), if_neg (by omega)] at h
  rcases h2 with h2 | h2 | h2
  · rw [if_pos h2, Bool.and_eq_true] at h
    exact of_decide_eq_true h.1
  · rw [if_neg (by omega), if_pos (.inl h2)] at h
    exact of_decide_eq_true h
  · rw [if_neg (by omega), if_pos (.inr h2)] at h
    exact of_decide_eq_true h
theorem rightB_kind (a : AC) (h : rightB a = true) : 1 ≤ a.f0 ∧ a.f0 ≤ 8 := by
  unfold rightB at h
  split at h
  · omega
  · split at h
    · omega
    · split at h
      · omega
      · split at h
        · omega
        · split at h
          · omega
          · simp at h
theorem rising_f (k : Nat) (t : List Int) (h : t.length ≤ 1000000000) : q10z.f k t = some (setU t) := by
  have h1 : Sort_u32.f k t = some (sortU t) := if_pos (by omega)
  have h2 : Compact_u32.f (sortU t) = some (setU t) := if_pos (by rw [sortU_len]; omega)
  unfold q10z.f
  rw [h1, Option.bind_some, h2, Option.bind_some]
theorem join_f (L : List (List Int)) (hl : L.length ≤ 1000) (h : sumLen L ≤ 1000000000) : q9z.f L = some L.flatten := by
  have h1 : slices_Concat_uint32_uint32.f L = some L.flatten := if_pos ⟨by omega, by omega⟩
  have h2 := sumLen_flat L
  unfold q9z.f
  rw [Option.bind_some, h1, Option.bind_some, if_pos (by simp only [List.length_nil]; omega), List.nil_append]
theorem copy_f (r : R8) (h1 : r.2.2.1.length ≤ 1000000000) (h2 : r.2.2.2.1.length ≤ 1000000000) : q8z.f r.1 r.2.1 r.2.2.1 r.2.2.2.1 r.2.2.2.2.1 r.2.2.2.2.2.1 r.2.2.2.2.2.2.1 r.2.2.2.2.2.2.2 = some r := by
  unfold q8z.f
  rw [Option.bind_some, if_pos (by simp only [List.length_nil]; omega), Option.bind_some, if_pos (by simp only [List.length_nil]; omega), List.nil_append, List.nil_append]
theorem refCopy_f (r : R8) (h1 : r.2.2.1.length ≤ 1000000000) (h2 : r.2.2.2.1.length ≤ 1000000000) : q4z.f r.1 r.2.1 r.2.2.1 r.2.2.2.1 r.2.2.2.2.1 r.2.2.2.2.2.1 r.2.2.2.2.2.2.1 r.2.2.2.2.2.2.2 = some r := by
  unfold q4z.f
  rw [Option.bind_some, if_pos (by simp only [List.length_nil]; omega), Option.bind_some, if_pos (by simp only [List.length_nil]; omega), List.nil_append, List.nil_append]
theorem lu_one {c : Int} (h : U32 c) : LU [c] := ⟨by simp, fun z hz => by rw [List.mem_singleton.1 hz]; exact h⟩
theorem del_f (a : AC) (ha : AU a) (cs : List Int) (hc : LU cs) : act_del.f cs a.f3 = some (cs.filter (fun c => !takesB a.f3 [c])) :=
  keepM_some _ _ cs (fun c h => takes_f a.f3 ha.2.2.2 [c] (lu_one (hc.2 c h)))
theorem do_ev (a : AC) (ha : AU a) (r : R8) (hc : LU r.2.2.2.1) (h1 : r.2.2.1.length ≤ 100000000) (h2 : r.2.2.2.1.length ≤ 100000000) :
    Ev (fun k => q11z.f k a.f0 a.f1 a.f2 a.f3 r.1 r.2.1 r.2.2.1 r.2.2.2.1 r.2.2.2.2.1 r.2.2.2.2.2.1 r.2.2.2.2.2.2.1 r.2.2.2.2.2.2.2) (doR a r) := by
  have hcp := copy_f r (by omega) (by omega)
  have hw : wrap64 a.f1 = a.f1 := ha.2.1.wr
  have hR := actRight_ev a ha
  cases hb : rightB a with
  | false =>
    refine Ev.with hR (Ev.now _) (fun k e => ?_)
    unfold q11z.f doR
    rw [hcp, Option.bind_some, e, Option.bind_some, hb, if_neg (by decide), if_pos rfl]
  | true =>
    rw [hb] at hR
    have hk := rightB_kind a hb
    unfold doR
    rw [hb, if_neg (by decide)]
    by_cases k1 : a.f0 = 1
    · refine Ev.with hR (Ev.now _) (fun k e => ?_)
      unfold q11z.f
      rw [hcp, Option.bind_some, e, Option.bind_some, if_pos rfl, if_pos k1, if_pos k1]
    rw [if_neg k1]
    by_cases k2 : a.f0 = 2
    · refine Ev.with hR (Ev.now _) (fun k e => ?_)
      unfold q11z.f
      rw [hcp, Option.bind_some, e, Option.bind_some, if_pos rfl, if_neg k1, if_pos k2, if_pos k2]
    rw [if_neg k2]
    by_cases k3 : a.f0 = 3
    · refine Ev.with hR (Ev.now _) (fun k e => ?_)
      unfold q11z.f
      rw [hcp, Option.bind_some, e, Option.bind_some, if_pos rfl, if_neg k1, if_neg k2, if_pos k3, if_pos k3, hw]
    rw [if_neg k3]
    by_cases k4 : a.f0 = 4
    · refine Ev.with hR (Ev.now _) (fun k e => ?_)
      unfold q11z.f
      rw [hcp, Option.bind_some, e, Option.bind_some, if_pos rfl, if_neg k1, if_neg k2, if_neg k3, if_pos k4, if_pos k4]
    rw [if_neg k4]
    by_cases k5 : a.f0 = 5
    · have hl := rightB_len a hb (.inl k5)
      refine Ev.with hR (Ev.now _) (fun k e => ?_)
      unfold q11z.f
      rw [hcp, Option.bind_some, e, Option.bind_some, if_pos rfl, if_neg k1, if_neg k2, if_neg k3, if_neg k4, if_pos k5, if_pos k5, join_f [a.f2, r.2.2.1] (by simp) (by simp [sumLen]; omega), Option.bind_some]
      simp
    rw [if_neg k5]
    by_cases k6 : a.f0 = 6
    · have hl := rightB_len a hb (.inr (.inl k6))
      refine Ev.with hR (Ev.now _) (fun k e => ?_)
      unfold q11z.f
      rw [hcp, Option.bind_some, e, Option.bind_some, if_pos rfl, if_neg k1, if_neg k2, if_neg k3, if_neg k4, if_neg k5, if_pos k6, if_pos k6, join_f [r.2.2.2.1, a.f2] (by simp) (by simp [sumLen]; omega), Option.bind_some, rising_f k _ (by simp; omega), Option.bind_some]
      simp
    rw [if_neg k6]
    by_cases k7 : a.f0 = 7
    · have hl := rightB_len a hb (.inr (.inr k7))
      refine Ev.with hR (Ev.now _) (fun k e => ?_)
      unfold q11z.f
      rw [hcp, Option.bind_some, e, Option.bind_some, if_pos rfl, if_neg k1, if_neg k2, if_neg k3, if_neg k4, if_neg k5, if_neg k6, if_pos k7, if_pos k7, join_f [a.f2] (by simp) (by simp [sumLen]; omega), Option.bind_some, rising_f k _ (by simp; omega), Option.bind_some]
      simp
    rw [if_neg k7]
    have k8 : a.f0 = 8 := by omega
    have hfl := List.length_filter_le (fun c => !takesB a.f3 [c]) r.2.2.2.1
    refine Ev.with hR (Ev.now _) (fun k e => ?_)
    unfold q11z.f
    rw [hcp, Option.bind_some, e, Option.bind_some, if_pos rfl, if_neg k1, if_neg k2, if_neg k3, if_neg k4, if_neg k5, if_neg k6, if_neg k7, if_pos k8, del_f a ha _ hc, Option.bind_some, rising_f k _ (by omega), Option.bind_some]
/-! The document's. -/
theorem refDo_l0 (a : AC) (ha : AU a) (r : R8) (hc : LU r.2.2.2.1) (h2 : r.2.2.2.1.length ≤ 100000000) : ∀ (d i : Nat) (out : List Int), i + d = r.2.2.2.1.length → out.length ≤ i →
    Ev (fun k => q21z.l0 k out r.2.2.2.1 (r.2.2.2.1.length : Int) (i : Int) a.f0 a.f1 a.f2 a.f3 r.1 r.2.1 r.2.2.1 r.2.2.2.1 r.2.2.2.2.1 r.2.2.2.2.2.1 r.2.2.2.2.2.2.1 r.2.2.2.2.2.2.2) (r.1, r.2.1, r.2.2.1, setU (out ++ (r.2.2.2.1.drop i).filter (fun c => !takesB a.f3 [c])), r.2.2.2.2.1, r.2.2.2.2.2.1, r.2.2.2.2.2.2.1, r.2.2.2.2.2.2.2)
  | 0, i, out, hi, ho => by
    rw [List.drop_eq_nil_of_le (by omega), List.filter_nil, List.append_nil]
    refine Ev.use (sorted_ev out (by omega)) (Ev.now _) (fun k e => ?_)
    simp only [q21z.l0]
    rw [if_neg (by omega), e, Option.bind_some]
  | d + 1, i, out, hi, ho => by
    have hil : i < r.2.2.2.1.length := by omega
    have hrd := rdI r.2.2.2.1 i hil
    have hu := hc.2 _ (List.getElem_mem hil)
    rw [List.drop_eq_getElem_cons hil, List.filter_cons]
    generalize hx : r.2.2.2.1[i] = x at hrd hu
    have ht := refTakes_ev a.f3 ha.2.2.2 [x] (lu_one hu)
    cases hb : takesB a.f3 [x] with
    | true =>
      rw [hb] at ht
      rw [if_neg (by simp)]
      refine Ev.use ht (refDo_l0 a ha r hc h2 d (i + 1) out (by omega) (by omega)) (fun k e => ?_)
      simp only [q21z.l0]
      rw [if_pos (by omega), if_pos (by omega), if_pos (by omega), hrd, e, Option.bind_some, if_pos rfl, wrN i (by omega)]
    | false =>
      rw [hb] at ht
      rw [if_pos (by simp)]
      have ih := refDo_l0 a ha r hc h2 d (i + 1) (out ++ [x]) (by omega) (by simp; omega)
      rw [List.append_assoc, List.singleton_append] at ih
      refine Ev.use ht ih (fun k e => ?_)
      simp only [q21z.l0]
      rw [if_pos (by omega), if_pos (by omega), if_pos (by omega), hrd, e, Option.bind_some, if_neg (by decide), if_pos (by omega), wrN i (by omega)]
theorem refDo_ev (a : AC) (ha : AU a) (r : R8) (hc : LU r.2.2.2.1) (h1 : r.2.2.1.length ≤ 100000000) (h2 : r.2.2.2.1.length ≤ 100000000) :
    Ev (fun k => q21z.f k a.f0 a.f1 a.f2 a.f3 r.1 r.2.1 r.2.2.1 r.2.2.2.1 r.2.2.2.2.1 r.2.2.2.2.2.1 r.2.2.2.2.2.2.1 r.2.2.2.2.2.2.2) (doR a r) := by
  have hcp := refCopy_f r (by omega) (by omega)
  have hw : wrap64 a.f1 = a.f1 := ha.2.1.wr
  have hR := refRight_ev a ha
  cases hb : rightB a with
  | false =>
    refine Ev.with hR (Ev.now _) (fun k e => ?_)
    unfold q21z.f doR
    rw [hcp, Option.bind_some, e, Option.bind_some, hb, if_neg (by decide), if_pos rfl]
  | true =>
    rw [hb] at hR
    have hk := rightB_kind a hb
    unfold doR
    rw [hb, if_neg (by decide)]
    by_cases k1 : a.f0 = 1
    · refine Ev.with hR (Ev.now _) (fun k e => ?_)
      unfold q21z.f
      rw [hcp, Option.bind_some, e, Option.bind_some, if_pos rfl, if_pos k1, if_pos k1]
    rw [if_neg k1]
    by_cases k2 : a.f0 = 2
    · refine Ev.with hR (Ev.now _) (fun k e => ?_)
      unfold q21z.f
      rw [hcp, Option.bind_some, e, Option.bind_some, if_pos rfl, if_neg k1, if_pos k2, if_pos k2]
    rw [if_neg k2]
    by_cases k3 : a.f0 = 3
    · refine Ev.with hR (Ev.now _) (fun k e => ?_)
      unfold q21z.f
      rw [hcp, Option.bind_some, e, Option.bind_some, if_pos rfl, if_neg k1, if_neg k2, if_pos k3, if_pos k3, hw]
    rw [if_neg k3]
    by_cases k4 : a.f0 = 4
    · refine Ev.with hR (Ev.now _) (fun k e => ?_)
      unfold q21z.f
      rw [hcp, Option.bind_some, e, Option.bind_some, if_pos rfl, if_neg k1, if_neg k2, if_neg k3, if_pos k4, if_pos k4]
    rw [if_neg k4]
    by_cases k5 : a.f0 = 5
    · have hl := rightB_len a hb (.inl k5)
      refine Ev.with hR (Ev.now _) (fun k e => ?_)
      unfold q21z.f
      rw [hcp, Option.bind_some, e, Option.bind_some, if_pos rfl, if_neg k1, if_neg k2, if_neg k3, if_neg k4, if_pos k5, if_pos k5, Option.bind_some, if_pos (by simp only [List.length_nil]; omega), Option.bind_some, List.nil_append, if_pos (by omega)]
    rw [if_neg k5]
    by_cases k6 : a.f0 = 6
    · have hl := rightB_len a hb (.inr (.inl k6))
      rw [if_pos k6]
      refine Ev.with2 hR (sorted_ev (r.2.2.2.1 ++ a.f2) (by simp; omega)) (Ev.now _) (fun k e e2 => ?_)
      unfold q21z.f
      rw [hcp, Option.bind_some, e, Option.bind_some, if_pos rfl, if_neg k1, if_neg k2, if_neg k3, if_neg k4, if_neg k5, if_pos k6, if_pos (by omega), e2, Option.bind_some]
    rw [if_neg k6]
    by_cases k7 : a.f0 = 7
    · have hl := rightB_len a hb (.inr (.inr k7))
      rw [if_pos k7]
      refine Ev.with2 hR (sorted_ev a.f2 (by omega)) (Ev.now _) (fun k e e2 => ?_)
      unfold q21z.f
      rw [hcp, Option.bind_some, e, Option.bind_some, if_pos rfl, if_neg k1, if_neg k2, if_neg k3, if_neg k4, if_neg k5, if_neg k6, if_pos k7, e2, Option.bind_some]
    rw [if_neg k7]
    have k8 : a.f0 = 8 := by omega
    have h0 := refDo_l0 a ha r hc h2 r.2.2.2.1.length 0 [] (by omega) (by simp)
    rw [List.drop_zero, List.nil_append] at h0
    refine Ev.with hR h0 (fun k e => ?_)
    unfold q21z.f
    rw [hcp, Option.bind_some, e, Option.bind_some, if_pos rfl, if_neg k1, if_neg k2, if_neg k3, if_neg k4, if_neg k5, if_neg k6, if_neg k7, if_pos k8]
    rfl
/-! What stays so, action by action. -/
def RB (n : Nat) (r : R8) : Prop := RU r ∧ r.2.2.1.length ≤ n ∧ r.2.2.2.1.length ≤ n
theorem doR_RB (a : AC) (ha : AU a) (r : R8) (n : Nat) (hn : n ≤ 100000000) (h : RB n r) : RB (n + 64) (doR a r) := by
  obtain ⟨⟨u0, u1, u2, u3, u4, u5, u6, u7⟩, l1, l2⟩ := h
  unfold doR
  cases hb : rightB a with
  | false => exact ⟨⟨u0, u1, u2, u3, u4, u5, u6, u7⟩, by rw [if_pos rfl]; omega, by rw [if_pos rfl]; omega⟩
  | true =>
    rw [if_neg (by decide)]
    have hk := rightB_kind a hb
    split
    · exact ⟨⟨u0, u1, u2, u3, ha.2.1, u5, u6, u7⟩, Nat.le_trans l1 (by omega), Nat.le_trans l2 (by omega)⟩
    split
    · exact ⟨⟨u0, u1, u2, u3, u4, ha.2.1, u6, u7⟩, Nat.le_trans l1 (by omega), Nat.le_trans l2 (by omega)⟩
    split
    · exact ⟨⟨u0, u1, u2, u3, u4, u5, by have := ha.2.1; unfold U32 at this; show I64 a.f1; unfold I64; omega, u7⟩, Nat.le_trans l1 (by omega), Nat.le_trans l2 (by omega)⟩
    split
    · exact ⟨⟨u0, u1, u2, u3, u4, u5, u6, ha.2.1⟩, Nat.le_trans l1 (by omega), Nat.le_trans l2 (by omega)⟩
    split
    · rename_i k5
      have hl := rightB_len a hb (.inl k5)
      have hlen : (a.f2 ++ r.2.2.1).length ≤ n + 64 := by rw [List.length_append]; omega
      exact ⟨⟨u0, u1, ⟨Nat.le_trans hlen (by omega), fun z hz => (List.mem_append.1 hz).elim (ha.2.2.1.2 z) (u2.2 z)⟩, u3, u4, u5, u6, u7⟩, hlen, Nat.le_trans l2 (by omega)⟩
    split
    · rename_i k6
      have hl := rightB_len a hb (.inr (.inl k6))
      have hlen : (setU (r.2.2.2.1 ++ a.f2)).length ≤ n + 64 := by have := setU_le (r.2.2.2.1 ++ a.f2); rw [List.length_append] at this; omega
      exact ⟨⟨u0, u1, u2, ⟨Nat.le_trans hlen (by omega), fun z hz => (List.mem_append.1 ((setU_mem _ z).1 hz)).elim (u3.2 z) (ha.2.2.1.2 z)⟩, u4, u5, u6, u7⟩, Nat.le_trans l1 (by omega), hlen⟩
    split
    · rename_i k7
      have hl := rightB_len a hb (.inr (.inr k7))
      have hlen : (setU a.f2).length ≤ n + 64 := by have := setU_le a.f2; omega
      exact ⟨⟨u0, u1, u2, ⟨Nat.le_trans hlen (by omega), fun z hz => ha.2.2.1.2 z ((setU_mem _ z).1 hz)⟩, u4, u5, u6, u7⟩, Nat.le_trans l1 (by omega), hlen⟩
    · have hfl := List.length_filter_le (fun c => !takesB a.f3 [c]) r.2.2.2.1
      have hlen : (setU (r.2.2.2.1.filter (fun c => !takesB a.f3 [c]))).length ≤ n + 64 := by have := setU_le (r.2.2.2.1.filter (fun c => !takesB a.f3 [c])); omega
      exact ⟨⟨u0, u1, u2, ⟨Nat.le_trans hlen (by omega), fun z hz => u3.2 z (List.mem_filter.1 ((setU_mem _ z).1 hz)).1⟩, u4, u5, u6, u7⟩, Nat.le_trans l1 (by omega), hlen⟩
theorem greatR_f (r : R8) : q1z.f r.1 r.2.1 r.2.2.1 r.2.2.2.1 r.2.2.2.2.1 r.2.2.2.2.2.1 r.2.2.2.2.2.2.1 r.2.2.2.2.2.2.2 = some (decide (1000 < r.2.2.1.length ∨ 1000 < r.2.2.2.1.length)) := by
  unfold q1z.f
  by_cases h : (r.2.2.1.length : Int) > 1000
  · rw [if_pos h, decide_eq_true (.inl (by omega))]
  · rw [if_neg h]
    exact congrArg some (decide_eq_decide.2 (by omega))
/-! The document's copy of an action, and that it is the same one. -/
theorem great2_l1 (l : List S53) (hl : l.length ≤ 9223372036854775807) (a0 : Int) (Q : List S76) (C : List S53) (lo hi_ : Int) : ∀ (d i : Nat) (x : Int), i + d = l.length → 0 ≤ x → x ≤ 3000 →
    Ev (fun k => q27z.l1 k x l (l.length : Int) (i : Int) a0 [] Q C lo hi_) true ∨ (Ev (fun k => q27z.l1 k x l (l.length : Int) (i : Int) a0 [] Q C lo hi_) false ∧ (d = 0 ∨ l.length ≤ 101) ∧ ∀ e ∈ l.drop i, e.f1.length ≤ 3000)
  | 0, i, x, hi, h0, hx => .inr ⟨Ev.last (fun k => by
      simp only [q27z.l1]
      rw [if_neg (by omega)]
      rfl), .inl rfl, by rw [List.drop_eq_nil_of_le (by omega)]; intro e he; exact absurd he (by simp)⟩
  | d + 1, i, x, hi, h0, hx => by
    have hil : i < l.length := by omega
    have hrd := comm_getD l i hil
    rw [List.drop_eq_getElem_cons hil]
    generalize l[i] = e at hrd ⊢
    by_cases h1 : (i : Int) > 100
    · refine .inl (Ev.last (fun k => ?_))
      simp only [q27z.l1]
      rw [if_pos (by omega), if_pos (by omega), if_pos (by omega), if_pos h1]
    · have hmn : 0 ≤ mn (e.f1.length : Int) 10000 ∧ mn (e.f1.length : Int) 10000 ≤ 10000 ∧ (mn (e.f1.length : Int) 10000 ≤ 3000 → e.f1.length ≤ 3000) := by unfold mn; split <;> omega
      have hw : wrap64 (x + mn (e.f1.length : Int) 10000) = x + mn (e.f1.length : Int) 10000 := wr _ (by omega) (by omega)
      by_cases h2 : x + mn (e.f1.length : Int) 10000 > 3000
      · refine .inl (Ev.last (fun k => ?_))
        simp only [q27z.l1]
        rw [if_pos (by omega), if_pos (by omega), if_pos (by omega), if_neg h1, hrd, hw, if_pos h2]
      · rcases great2_l1 l hl a0 Q C lo hi_ d (i + 1) (x + mn (e.f1.length : Int) 10000) (by omega) (by omega) (by omega) with hb | ⟨hb, hd, hall⟩
        · refine .inl (Ev.step (fun k => ?_) hb)
          simp only [q27z.l1]
          rw [if_pos (by omega), if_pos (by omega), if_pos (by omega), if_neg h1, hrd, hw, if_neg h2, wrN i (by omega)]
        · refine .inr ⟨Ev.step (fun k => ?_) hb, .inr (by omega), fun z hz => ?_⟩
          · simp only [q27z.l1]
            rw [if_pos (by omega), if_pos (by omega), if_pos (by omega), if_neg h1, hrd, hw, if_neg h2, wrN i (by omega)]
          · rcases List.mem_cons.1 hz with hz | hz
            · rw [hz]; exact hmn.2.2 (by omega)
            · exact hall z hz
def AS (a : AC) : Prop := a.f2.length ≤ 3000 ∧ a.f3.length ≤ 101 ∧ ∀ e ∈ a.f3, e.f1.length ≤ 3000
theorem refGreat2_ev (a : AC) (ha : AU a) : Ev (fun k => q28z.f k a.f0 a.f1 a.f2 a.f3) true ∨ (Ev (fun k => q28z.f k a.f0 a.f1 a.f2 a.f3) false ∧ AS a) := by
  by_cases h : (a.f2.length : Int) > 3000
  · exact .inl (Ev.congr (fun k => by unfold q28z.f; rw [if_pos h]) (Ev.now _))
  · have hstep : ∀ b, Ev (fun k => q27z.l1 k 0 a.f3 (a.f3.length : Int) ((0 : Nat) : Int) 0 [] [] a.f3 0 0) b → Ev (fun k => q28z.f k a.f0 a.f1 a.f2 a.f3) b := fun b hb => by
      have h0 : Ev (fun k => q27z.f k 0 [] [] a.f3 0 0) b := by
        refine Ev.step (fun k => ?_) hb
        unfold q27z.f
        simp only [q27z.l0]
        rw [if_neg (by simp)]
        rfl
      refine Ev.with h0 (Ev.now _) (fun k e => ?_)
      unfold q28z.f
      rw [if_neg h, e, Option.bind_some]
    rcases great2_l1 a.f3 ha.2.2.2.1 0 [] a.f3 0 0 a.f3.length 0 0 (by omega) (by omega) (by omega) with hb | ⟨hb, hd, hall⟩
    · exact .inl (hstep _ hb)
    · exact .inr ⟨hstep _ hb, by omega, by omega, by rw [List.drop_zero] at hall; exact hall⟩
theorem copyComms_l0 (l : List S53) (hl : l.length ≤ 101) (hs : ∀ e ∈ l, e.f1.length ≤ 3000) : ∀ (d i : Nat) (out : List S53), i + d = l.length → out.length = i → Ev (fun k => q2z.l0 k out l (l.length : Int) (i : Int)) (out ++ l.drop i)
  | 0, i, out, hi, ho => by
    rw [List.drop_eq_nil_of_le (by omega), List.append_nil]
    refine Ev.last (fun k => ?_)
    simp only [q2z.l0]
    rw [if_neg (by omega)]
  | d + 1, i, out, hi, ho => by
    have hil : i < l.length := by omega
    have hrd := comm_getD l i hil
    have he := hs l[i] (List.getElem_mem hil)
    have ih := copyComms_l0 l hl hs d (i + 1) (out ++ [l[i]]) (by omega) (by simp [ho])
    rw [List.append_assoc, List.singleton_append, ← List.drop_eq_getElem_cons hil] at ih
    generalize l[i] = e at hrd he ih
    refine Ev.step (fun k => ?_) ih
    simp only [q2z.l0]
    rw [if_pos (by omega), if_pos (by omega), if_pos (by omega), Option.bind_some, hrd, if_pos (by simp only [List.length_nil]; omega), if_pos (by omega), wrN i (by omega), List.nil_append]
theorem copyComms_ev (l : List S53) (hl : l.length ≤ 101) (hs : ∀ e ∈ l, e.f1.length ≤ 3000) : Ev (fun k => q2z.f k l) l := by
  have h := copyComms_l0 l hl hs l.length 0 [] (by omega) rfl
  rw [List.drop_zero, List.nil_append] at h
  exact h
theorem copyA_ev (a : AC) (h : AS a) : Ev (fun k => q3z.f k a.f0 a.f1 a.f2 a.f3) (a.f0, a.f1, a.f2, a.f3) := by
  refine Ev.with (copyComms_ev a.f3 h.2.1 h.2.2) (Ev.now _) (fun k e => ?_)
  unfold q3z.f
  rw [Option.bind_some, if_pos (by simp only [List.length_nil]; have := h.1; omega), e, Option.bind_some, List.nil_append]
theorem numsU_l0 (C : List Int) (hC : C.length ≤ 1000000000) : ∀ (e i : Nat), i + e = C.length → Ev (fun k => q22z.l0 k C C (C.length : Int) (i : Int)) true
  | 0, i, hi => by
    refine Ev.last (fun k => ?_)
    simp only [q22z.l0]
    rw [if_neg (by omega)]
  | e + 1, i, hi => by
    refine Ev.step (fun k => ?_) (numsU_l0 C hC e (i + 1) (by omega))
    simp only [q22z.l0]
    rw [if_pos (by omega), if_pos (by omega), if_pos (by omega), if_pos (by omega), if_pos trivial, wrN i (by omega)]
theorem numsU_ev (C : List Int) (hC : C.length ≤ 1000000000) : Ev (fun k => q22z.f k C C) true := by
  refine Ev.congr (fun k => ?_) (numsU_l0 C hC C.length 0 (by omega))
  unfold q22z.f
  rw [if_pos rfl]
  rfl
theorem sameC_l1 (l : List S53) (i : Nat) (hi : i < l.length) (n m : Int) (he : l[i].f1.length ≤ 3000) (hG : Ev (fun k => q23z.l0 k l l n (wrap64 (m + 1))) true) : ∀ (d j : Nat), j + d = l[i].f1.length → Ev (fun k => q23z.l1 k l l (i : Int) n m (l[i].f1.length : Int) (j : Int)) true
  | 0, j, hj => by
    refine Ev.step (fun k => ?_) hG
    simp only [q23z.l1]
    rw [if_neg (by omega)]
  | d + 1, j, hj => by
    have hrd := comm_getD l i hi
    refine Ev.step (fun k => ?_) (sameC_l1 l i hi n m he hG d (j + 1) (by omega))
    simp only [q23z.l1]
    rw [if_pos (by omega), if_pos (by omega), if_pos (by omega), if_pos (by omega), hrd, if_pos (by omega), if_pos (by omega), if_pos (by omega), if_neg (by simp), wrN j (by omega)]
theorem sameC_l0 (l : List S53) (hl : l.length ≤ 101) (hs : ∀ e ∈ l, e.f1.length ≤ 3000) : ∀ (d i : Nat), i + d = l.length → Ev (fun k => q23z.l0 k l l (l.length : Int) (i : Int)) true
  | 0, i, hi => by
    refine Ev.last (fun k => ?_)
    simp only [q23z.l0]
    rw [if_neg (by omega)]
  | d + 1, i, hi => by
    have hil : i < l.length := by omega
    have hrd := comm_getD l i hil
    have ih := sameC_l0 l hl hs d (i + 1) (by omega)
    have h1 := sameC_l1 l i hil (l.length : Int) (i : Int) (hs _ (List.getElem_mem hil)) (by rw [wrN i (by omega)]; exact ih) l[i].f1.length 0 (by omega)
    have h2 : Ev (fun k => q23z.j1 k l l (i : Int) (l.length : Int) (i : Int) false) true := by
      refine Ev.step (fun k => ?_) h1
      simp only [q23z.j1]
      rw [if_neg (by decide), if_pos (by omega), if_pos (by omega), hrd]
      rfl
    refine Ev.step (fun k => ?_) h2
    simp only [q23z.l0]
    rw [if_pos (by omega), if_pos (by omega), if_pos (by omega), if_pos (by omega), if_neg (by simp), bne_self_eq_false]
theorem sameA_ev (a : AC) (h : AS a) : Ev (fun k => q24z.f k a.f0 a.f1 a.f2 a.f3 a.f0 a.f1 a.f2 a.f3) true := by
  have h0 : Ev (fun k => q23z.f k a.f3 a.f3) true := by
    refine Ev.congr (fun k => ?_) (sameC_l0 a.f3 h.2.1 h.2.2 a.f3.length 0 (by omega))
    unfold q23z.f
    rw [if_pos rfl]
    rfl
  refine Ev.with2 (numsU_ev a.f2 (by have := h.1; omega)) h0 (Ev.now _) (fun k e1 e2 => ?_)
  unfold q24z.f
  rw [if_pos rfl, if_pos rfl, e1, Option.bind_some, if_pos rfl, e2, Option.bind_some]
theorem alive_ev : Ev (fun k => q25z.f k) true := by
  refine ⟨60, fun k hk => ?_⟩
  obtain ⟨m, rfl⟩ : ∃ m, k = m + 60 := ⟨k - 60, by omega⟩
  kernel_rfl
/-! An action done is the document's, and what came in stays. -/
theorem does_j1 (a : AC) (r : R8) (hs : AS a) (hr : RU r) :
    Ev (fun k => q29z.j1 k false a.f0 a.f1 a.f2 a.f3 r.1 r.2.1 r.2.2.1 r.2.2.2.1 r.2.2.2.2.1 r.2.2.2.2.2.1 r.2.2.2.2.2.2.1 r.2.2.2.2.2.2.2 a.f0 a.f1 a.f2 a.f3 r.1 r.2.1 r.2.2.1 r.2.2.2.1 r.2.2.2.2.1 r.2.2.2.2.2.1 r.2.2.2.2.2.2.1 r.2.2.2.2.2.2.2) true := by
  have e2 := refCmp_ev r r hr hr
  rw [cmpR_ord.self] at e2
  refine Ev.use2 (sameA_ev a hs) e2 (Ev.now _) (fun k q1 q2 => ?_)
  simp only [q29z.j1]
  rw [if_neg (by decide), q1, Option.bind_some, if_pos rfl, q2, Option.bind_some]
  rfl
theorem does_j0t (a : AC) (r : R8) : Ev (fun k => q29z.j0 k true a.f0 a.f1 a.f2 a.f3 r.1 r.2.1 r.2.2.1 r.2.2.2.1 r.2.2.2.2.1 r.2.2.2.2.2.1 r.2.2.2.2.2.2.1 r.2.2.2.2.2.2.2) true := Ev.last (fun k => by
  simp only [q29z.j0]
  rw [if_pos trivial])
theorem does_j0 (a : AC) (r : R8) (ha : AU a) (hs : AS a) (hr : RB 10000 r) :
    Ev (fun k => q29z.j0 k false a.f0 a.f1 a.f2 a.f3 r.1 r.2.1 r.2.2.1 r.2.2.2.1 r.2.2.2.2.1 r.2.2.2.2.2.1 r.2.2.2.2.2.2.1 r.2.2.2.2.2.2.2) true := by
  have e0 := copyA_ev a hs
  have e1 := do_ev a ha r hr.1.2.2.2.1 (by have := hr.2.1; omega) (by have := hr.2.2; omega)
  have e2 := actRight_ev a ha
  have e3 := refRight_ev a ha
  have e4 := refDo_ev a ha r hr.1.2.2.2.1 (by have := hr.2.1; omega) (by have := hr.2.2; omega)
  have hx := doR_RB a ha r 10000 (by decide) hr
  have e5 := refCmp_ev _ _ hx.1 hx.1
  rw [cmpR_ord.self] at e5
  have hcp := refCopy_f r (by have := hr.2.1; omega) (by have := hr.2.2; omega)
  generalize doR a r = x at *
  generalize rightB a = b at *
  have e45 : Ev (fun k => (q21z.f k a.f0 a.f1 a.f2 a.f3 r.1 r.2.1 r.2.2.1 r.2.2.2.1 r.2.2.2.2.1 r.2.2.2.2.2.1 r.2.2.2.2.2.2.1 r.2.2.2.2.2.2.2).bind fun z => q16z.f k x.1 x.2.1 x.2.2.1 x.2.2.2.1 x.2.2.2.2.1 x.2.2.2.2.2.1 x.2.2.2.2.2.2.1 x.2.2.2.2.2.2.2 z.1 z.2.1 z.2.2.1 z.2.2.2.1 z.2.2.2.2.1 z.2.2.2.2.2.1 z.2.2.2.2.2.2.1 z.2.2.2.2.2.2.2) 0 := by
    refine Ev.with2 e4 e5 (Ev.now _) (fun k q1 q2 => ?_)
    rw [q1, Option.bind_some, q2]
  have e23 : Ev (fun k => (q7z.f k a.f0 a.f1 a.f2 a.f3).bind fun z => (q13z.f k a.f0 a.f1 a.f2 a.f3).bind fun y => some (z != y)) false := by
    refine Ev.with2 e2 e3 (Ev.now _) (fun k q1 q2 => ?_)
    rw [q1, Option.bind_some, q2, Option.bind_some]
    simp
  obtain ⟨K1, h1⟩ := Ev.and e0 e1
  obtain ⟨K2, h2⟩ := Ev.and e2 e3
  obtain ⟨K3, h3⟩ := Ev.and e4 e5
  obtain ⟨K4, h4⟩ := does_j1 a r hs hr.1
  refine ⟨K1 + K2 + K3 + K4 + 1, fun n hn => ?_⟩
  obtain ⟨k, rfl⟩ : ∃ k, n = k + 1 := ⟨n - 1, by omega⟩
  obtain ⟨q0, q1⟩ := h1 k (by omega)
  obtain ⟨q2, q3⟩ := h2 k (by omega)
  obtain ⟨q4, q5⟩ := h3 k (by omega)
  have q6 := h4 k (by omega)
  show q29z.j0 (k + 1) false a.f0 a.f1 a.f2 a.f3 r.1 r.2.1 r.2.2.1 r.2.2.2.1 r.2.2.2.2.1 r.2.2.2.2.2.1 r.2.2.2.2.2.2.1 r.2.2.2.2.2.2.2 = some true
  simp only [q29z.j0]
  rw [if_neg (by decide), q0, Option.bind_some, hcp, Option.bind_some]
  refine (congrArg (fun z => Option.bind z _) q1).trans ?_
  rw [Option.bind_some]
  refine (congrArg (fun z => Option.bind z _) q2).trans ?_
  rw [Option.bind_some, q3, Option.bind_some, if_neg (by simp), q4, Option.bind_some, q5, Option.bind_some]
  exact q6
theorem pure_ActDoes (a0_0 : Int) (a0_1 : Int) (l0_2 : List Int) (l0_3 : List (S53)) (a1_0_0 : Int) (a1_0_1 : Int) (l1_1 : List Int) (l1_2 : List Int) (a1_3 : Int) (a1_4 : Int) (a1_5 : Int) (a1_6 : Int) (h0 : (Lit.int .i64 a0_0).wf = true) (h1 : (Lit.int .u32 a0_1).wf = true) (h2 : (l0_2.length ≤ 9223372036854775807 ∧ ∀ z_ ∈ l0_2, (Lit.int .u32 z_).wf = true)) (h3 : (l0_3.length ≤ 9223372036854775807 ∧ ∀ z_ ∈ l0_3, good53 z_)) (h4 : (Lit.int .u32 a1_0_0).wf = true) (h5 : (Lit.int .i64 a1_0_1).wf = true) (h6 : (l1_1.length ≤ 9223372036854775807 ∧ ∀ z_ ∈ l1_1, (Lit.int .u32 z_).wf = true)) (h7 : (l1_2.length ≤ 9223372036854775807 ∧ ∀ z_ ∈ l1_2, (Lit.int .u32 z_).wf = true)) (h8 : (Lit.int .u32 a1_3).wf = true) (h9 : (Lit.int .u32 a1_4).wf = true) (h10 : (Lit.int .i64 a1_5).wf = true) (h11 : (Lit.int .u32 a1_6).wf = true) : ∃ k, q29z.f k a0_0 a0_1 l0_2 l0_3 a1_0_0 a1_0_1 l1_1 l1_2 a1_3 a1_4 a1_5 a1_6 = some true := by
  obtain ⟨r, hr⟩ : ∃ r : R8, r = (a1_0_0, a1_0_1, l1_1, l1_2, a1_3, a1_4, a1_5, a1_6) := ⟨_, rfl⟩
  have hRU : RU r := by rw [hr]; exact ⟨u32_of h4, i64_of h5, lu_of h6, lu_of h7, u32_of h8, u32_of h9, i64_of h10, u32_of h11⟩
  obtain ⟨a, ha⟩ : ∃ a : AC, a = ⟨a0_0, a0_1, l0_2, l0_3⟩ := ⟨_, rfl⟩
  have hau : AU a := by rw [ha]; exact aU_of ⟨h0, h1, h2, h3⟩
  have main : Ev (fun k => q29z.f k a.f0 a.f1 a.f2 a.f3 r.1 r.2.1 r.2.2.1 r.2.2.2.1 r.2.2.2.2.1 r.2.2.2.2.2.1 r.2.2.2.2.2.2.1 r.2.2.2.2.2.2.2) true := by
    rcases refGreat2_ev a hau with hg1 | ⟨hg1, hs⟩
    · refine Ev.with2 alive_ev hg1 (does_j0t a r) (fun k q q1 => ?_)
      unfold q29z.f
      rw [q, Option.bind_some, if_pos rfl, q1, Option.bind_some, if_pos rfl]
    · by_cases hG : 1000 < r.2.2.1.length ∨ 1000 < r.2.2.2.1.length
      · refine Ev.with2 alive_ev hg1 (does_j0t a r) (fun k q q1 => ?_)
        unfold q29z.f
        rw [q, Option.bind_some, if_pos rfl, q1, Option.bind_some, if_neg (by decide), greatR_f, Option.bind_some, decide_eq_true hG]
      · refine Ev.with2 alive_ev hg1 (does_j0 a r hau hs ⟨hRU, by omega, by omega⟩) (fun k q q1 => ?_)
        unfold q29z.f
        rw [q, Option.bind_some, if_pos rfl, q1, Option.bind_some, if_neg (by decide), greatR_f, Option.bind_some, decide_eq_false hG]
  rw [ha, hr] at main
  exact main.rounds
end Go.Proofs.Ytgelpccjdndfoaa.P
namespace Go.Proofs.Ytgelpccjdndfoaa.actDoes
open Go.ChangeShapes Go.WideShapes Go.ChangeAt Go.RowKit
open Go.ChangeMaps (open_string shut_string)
open Go.Proofs.YtgelpccjdndfoaaW.PrintWords Go.Proofs.YtgelpccjdndfoaaW.PrintLast Go.Proofs.YtgelpccjdndfoaaW.PrintMore Go.Proofs.Ytgelpccjdndfoaa.P
theorem own : ownKnob Try.prog.godebug = none := by kernel_rfl
theorem laidOut : laidOutB Try.prog = true := by kernel_rfl
set_option maxRecDepth 100000 in
theorem lifted (os : Os) (started : os.Started) (H : Type) (enc : TypeId × Value → H) :
    ReturnsInHanded {} Try.checked os 3 .any (Rows.actDoesSpec.pre6 enc Try.prog Try.f3 Rows.actDoesRow.domain false) (Rows.actDoesSpec.post enc Try.prog Try.f3 false true false false) := by
  refine returnsInHanded_of_change_sized (C := Try.checked) own started (by kernel_rfl) Try.func3
    (ChangeSpec.witness6 (enc := enc) (C := Try.checked) false ⟨#[], #[.agg #[.int .i64 0, .int .u32 0, .slice none 0 0, .slice none 0 0], .agg #[.int .u32 0, .int .i64 0, .slice none 0 0, .slice none 0 0, .int .u32 0, .int .u32 0, .int .i64 0, .int .u32 0]], []⟩ 8 (by kernel_rfl) (by kernel_rfl) (by kernel_rfl) (by kernel_rfl)) ?_
  intro W base args ds gs before hval0 hW hcnd hsz0 _
  have hval : ∀ (j : Nat) t v, Try.f3.params[j]? = some t → args[j]? = some v → Value.okWide Try.prog W .any base t v := hval0
  have hW' := hW
  obtain ⟨p, q, hA0, hV, rfl, hfz, hnd⟩ := hW
  have hA : DataW.TrodAll enc Try.prog W 0 (fun _ => true) true Try.f3.params.toList args.toList ds p := hA0
  rw [Try.params3] at hA hval
  obtain ⟨v0, vs0, d0, ds0, p0, q0, hargs, rfl, rfl, h0, r0⟩ := trodAll_cons hA
  obtain ⟨v1, vs1, d1, ds1, p1, q1, rfl, rfl, rfl, h1, r1⟩ := trodAll_cons r0
  obtain ⟨rfl, rfl, rfl⟩ := trodAll_nil r1
  obtain rfl : args = #[v0, v1] := by cases args; simp_all
  obtain ⟨rfl, rfl⟩ := trodVars_none hV
  obtain ⟨cs0, rfl, hz0⟩ := okWide_struct Try.underlying26 (hval 0 26 v0 rfl rfl)
  have k0 := h0
  have lt0 : ∀ x ∈ p0, x.block < W.heap.size := by obtain ⟨m, hm⟩ := k0; exact DataW.trod_lt m _ _ _ hm
  obtain ⟨⟨l0_0, l0_1, l0_2, l0_3⟩, hK0, hg0⟩ : ∃ x_ : S26, k26.K W x_ cs0.toList ∧ good26 x_ := by obtain ⟨fuel, hf⟩ := h0; exact opens_T26 _ _ _ (by simpa [Value.cells] using hf)
  obtain ⟨A0_2_, c0_2_, A0_3_, c0_3_, hcs0, hle0_2, hC0_2, hle0_3, hC0_3⟩ := k26_open hK0
  obtain rfl : cs0 = #[.int .i64 l0_0, .int .u32 l0_1, .slice A0_2_ l0_2.length c0_2_, .slice A0_3_ l0_3.length c0_3_] := Array.ext' hcs0
  obtain ⟨g0_0, g0_1, g0_2, g0_3⟩ := hg0
  obtain ⟨cs1, rfl, hz1⟩ := okWide_struct Try.underlying30 (hval 1 30 v1 rfl rfl)
  have k1 := h1
  have lt1 : ∀ x ∈ p1, x.block < W.heap.size := by obtain ⟨m, hm⟩ := k1; exact DataW.trod_lt m _ _ _ hm
  obtain ⟨⟨⟨l1_0_0, l1_0_1⟩, l1_1, l1_2, l1_3, l1_4, l1_5, l1_6⟩, hK1, hg1⟩ : ∃ x_ : S30, k30.K W x_ cs1.toList ∧ good30 x_ := by obtain ⟨fuel, hf⟩ := h1; exact opens_T30 _ _ _ (by simpa [Value.cells] using hf)
  obtain ⟨A1_1_, c1_1_, A1_2_, c1_2_, hcs1, hle1_1, hC1_1, hle1_2, hC1_2⟩ := k30_open hK1
  obtain rfl : cs1 = #[.int .u32 l1_0_0, .int .i64 l1_0_1, .slice A1_1_ l1_1.length c1_1_, .slice A1_2_ l1_2.length c1_2_, .int .u32 l1_3, .int .u32 l1_4, .int .i64 l1_5, .int .u32 l1_6] := Array.ext' hcs1
  obtain ⟨⟨g1_0_0, g1_0_1⟩, g1_1, g1_2, g1_3, g1_4, g1_5, g1_6⟩ := hg1
  clear hA0 hval0 hsz0
  obtain ⟨k_, hk_⟩ := pure_ActDoes l0_0 l0_1 l0_2 l0_3 l1_0_0 l1_0_1 l1_1 l1_2 l1_3 l1_4 l1_5 l1_6 g0_0 g0_1 g0_2 g0_3 g1_0_0 g1_0_1 g1_1 g1_2 g1_3 g1_4 g1_5 g1_6
  refine (q29z.calls k_ l0_0 l0_1 A0_2_ c0_2_ l0_2 A0_3_ c0_3_ l0_3 l1_0_0 l1_0_1 A1_1_ c1_1_ l1_1 A1_2_ c1_2_ l1_2 l1_3 l1_4 l1_5 l1_6 true W hC0_2 hle0_2 hC0_3 hle0_3 hC1_1 hle1_1 hC1_2 hle1_2 hk_).mono fun e W' ⟨he, bel⟩ => ?_
  subst he
  exact ⟨_, rfl, _, _, _, [], _, [], hW', trodAll_mk1 (shut_bool Try.underlying4 _), (trodAll_cons_mk (Below.trod laidOut (by kernel_rfl) (of_decide_eq_true (by kernel_rfl)) k0 bel lt0) (trodAll_cons_mk (Below.trod laidOut (by kernel_rfl) (of_decide_eq_true (by kernel_rfl)) k1 bel lt1) trodAll_mk0)), rfl, bel.frame _, fun h => by cases h⟩
theorem over : Rows.actDoesRow.holds Try.pinned (OpenSpec.ofChange Rows.actDoesSpec) :=
  OpenClaim.holds_of_wide 3 Try.f3 rfl rfl rfl rfl rfl rfl rfl ⟨rfl, rfl, rfl, rfl, rfl⟩ rfl rfl rfl rfl rfl (by kernel_rfl) Try.func3 (by kernel_rfl)
    (of_decide_eq_true (by kernel_rfl)) (by unfold Func.isWrapper; first | (rw [if_pos (by decide +kernel)]; kernel_rfl) | (rw [if_neg (by decide +kernel)]; exact ⟨rfl, rfl⟩))
    (fun os started H enc _ => lifted os started H enc)
theorem proved : Rows.ActDoesSaid := over
end Go.Proofs.Ytgelpccjdndfoaa.actDoes
namespace Go.Proofs.Ytgelpccjdndfoaa
/-- The row, under a short name, for the claim. -/
theorem actDoes_holds : Rows.ActDoesSaid := actDoes.proved
#print axioms actDoes_holds
end Go.Proofs.Ytgelpccjdndfoaa
