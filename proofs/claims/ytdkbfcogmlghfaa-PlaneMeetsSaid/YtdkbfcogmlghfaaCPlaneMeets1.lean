/- Part of the proof of the law PlaneMeets: the functions that it reaches, by contract. -/
import Derived.Test.YtdkbfcogmlghfaaCPlaneMeets0
namespace Go.Proofs.Ytdkbfcogmlghfaa.P
open Go.RowKit Go.Proofs.YtdkbfcogmlghfaaW.PrintWords Go.Proofs.YtdkbfcogmlghfaaW.PrintLast Go.Proofs.YtdkbfcogmlghfaaW.PrintMore
attribute [local go_sem] max2_int min2_int max_two min_two max_three min_three max_four min_four
set_option linter.unusedVariables false
set_option linter.unusedSimpArgs false

/-! ### plane_Cells: function 12 -/
def cells_half.l0 : Nat → List Int → List Int → List (S24) → Int → Int → Option (List Int × List Int)
  | 0, _, _, _, _, _ => none
  | k + 1, x4, x5, x23, x24, x25 => if x25 < x24 then (if 0 ≤ x25 then (if x25 < (x23.length : Int) then ((some (([(Int.tdiv ((rd_T24 x23 x25).f0) 65536) % 4294967296] : List Int) : List Int)).bind fun y11 => (if x4.length + y11.length < 35184372088832 then ((some (x4 ++ y11 : List Int)).bind fun y14 => ((some (([Int.tmod ((rd_T24 x23 x25).f0) 65536] : List Int) : List Int)).bind fun y17 => (if x5.length + y17.length < 35184372088832 then ((some (x5 ++ y17 : List Int)).bind fun y20 => (if (((Int.tdiv ((rd_T24 x23 x25).f1) 65536) + 1) % 4294967296) < 65536 then ((some (([((Int.tdiv ((rd_T24 x23 x25).f1) 65536) + 1) % 4294967296] : List Int) : List Int)).bind fun y23 => (if y14.length + y23.length < 35184372088832 then ((some (y14 ++ y23 : List Int)).bind fun y26 => (if (((Int.tmod ((rd_T24 x23 x25).f1) 65536) + 1) % 4294967296) < 65536 then ((some (([((Int.tmod ((rd_T24 x23 x25).f1) 65536) + 1) % 4294967296] : List Int) : List Int)).bind fun y29 => (if y20.length + y29.length < 35184372088832 then (cells_half.l0 k y26 (y20 ++ y29) x23 x24 (wrap64 (x25 + 1))) else (none))) else (cells_half.l0 k y26 y20 x23 x24 (wrap64 (x25 + 1))))) else (none))) else (if (((Int.tmod ((rd_T24 x23 x25).f1) 65536) + 1) % 4294967296) < 65536 then ((some (([((Int.tmod ((rd_T24 x23 x25).f1) 65536) + 1) % 4294967296] : List Int) : List Int)).bind fun y35 => (if y20.length + y35.length < 35184372088832 then (cells_half.l0 k y14 (y20 ++ y35) x23 x24 (wrap64 (x25 + 1))) else (none))) else (cells_half.l0 k y14 y20 x23 x24 (wrap64 (x25 + 1)))))) else (none)))) else (none))) else (none)) else (none)) else ((Sort_u32.f k x4).bind fun t7 => ((Sort_u32.f k x5).bind fun t8 => (some (t7, t8))))
def cells_half.f (k : Nat) (l0 : List (S24)) : Option (List Int × List Int) := cells_half.l0 k (([0] : List Int)) (([0] : List Int)) l0 (l0.length : Int) 0
theorem cells_half.mono_l : ∀ k, (∀ y0 y1 y2 y3 y4, LeO (cells_half.l0 k y0 y1 y2 y3 y4) (cells_half.l0 (k + 1) y0 y1 y2 y3 y4))
  | 0 => fun _ _ _ _ _ r h => by simp [cells_half.l0] at h
  | k + 1 => by
    have ih0 := cells_half.mono_l k
    · intro y0 y1 y2 y3 y4
      unfold cells_half.l0
      repeat' first
      | (with_reducible exact ih0 _ _ _ _ _)
      | (with_reducible exact Sort_u32.mono _ _)
      | (with_reducible exact LeO.refl _)
      | (with_reducible exact LeO.none _)
      | (with_reducible refine LeO.ite ?_ ?_)
      | (with_reducible refine LeO.bind ?_ (fun _ => ?_))
      | exact ih0 _ _ _ _ _
      | exact Sort_u32.mono _ _
      | exact LeO.none _
      | refine LeO.ite ?_ ?_
      | refine LeO.bind ?_ (fun _ => ?_)
theorem cells_half.mono : ∀ a0 k, LeO (cells_half.f k a0) (cells_half.f (k + 1) a0) := by
  intro a0 k
  have ih0 := cells_half.mono_l k
  unfold cells_half.f
  repeat' first
      | (with_reducible exact ih0 _ _ _ _ _)
      | (with_reducible exact Sort_u32.mono _ _)
      | (with_reducible exact LeO.refl _)
      | (with_reducible exact LeO.none _)
      | (with_reducible refine LeO.ite ?_ ?_)
      | (with_reducible refine LeO.bind ?_ (fun _ => ?_))
      | exact ih0 _ _ _ _ _
      | exact Sort_u32.mono _ _
      | exact LeO.none _
      | refine LeO.ite ?_ ?_
      | refine LeO.bind ?_ (fun _ => ?_)
def cells_half.T7 : Bool × List (List Nat × List Nat) := (true, [([], []), ([], []), ([1], [1]), ([2], [2]), ([3], [3]), ([0, 4], [0, 4]), ([], []), ([], []), ([7], [7]), ([8], [8]), ([9], [9]), ([6, 10, 5], [6, 10]), ([5, 11, 0, 1, 2, 3, 4, 5], [0, 5]), ([11, 12, 0, 1, 2, 3, 4, 5, 6, 7, 8, 9, 10, 11, 12], [6, 11])])
def cells_half.B7 : List Nat := [0, 0, 2, 6, 14, 31, 0, 0, 128, 384, 896, 2047, 4095, 8191]
theorem cells_half.tab7 : rtab .any (opsOf Try.f12 7) = cells_half.T7 := by kernel_rfl
theorem cells_half.bits7 : waitsOk cells_half.T7.2 cells_half.B7 = true := by kernel_rfl
/-- One row of cells: of each kind the first. -/
def cellsRow (k : Nat) (l : List S24) (x : Int) : List Int → List (List UInt8) → List Int → Option (List (List UInt8) × List Int)
  | [], seen, out => some (seen, out)
  | y :: r, seen, out => (q4z.f k l ((x * 65536 + y) % 4294967296)).bind fun kd => if kd.size ≤ 35184372088832 then (if decide (kd.data.toList ∈ seen) = true then cellsRow k l x r seen out else (if out.length < 35184372088832 then cellsRow k l x r (kd.data.toList :: seen) (out ++ [(x * 65536 + y) % 4294967296]) else none)) else none
def cellsAll (k : Nat) (l : List S24) (ys : List Int) : List Int → List (List UInt8) → List Int → Option (List Int)
  | [], _, out => some out
  | x :: r, seen, out => (Clone_u32.f ys).bind fun yc => (Compact_u32.f yc).bind fun yy => (cellsRow k l x yy seen out).bind fun t => cellsAll k l ys r t.1 t.2
def cellsTail (k : Nat) (l : List S24) (xs ys : List Int) : Option (List Int) := (Compact_u32.f xs).bind fun cx => cellsAll k l ys cx [] []
theorem rdN (l : List Int) (i : Nat) (h : i < l.length) : rd l (i : Int) = l[i] := by
  unfold rd
  rw [Int.toNat_natCast, List.getD_eq_getElem?_getD, List.getElem?_eq_getElem h]
  rfl
theorem R_fresh {α β : Type} {d : Kd α} {d' : Kd β} {e e' base : Nat} {W W2 : World} {u v vo : Value} {xs : List α} {xo : List β} (h : d.R e W2 base (fun k => some k = u.ownBlock ∨ W.heap.size ≤ k) v xs) (ho : d'.R e' W base (fun k => True ∧ some k ≠ u.ownBlock) vo xo) : d.R e W2 base (fun k => True ∧ some k ≠ vo.ownBlock) v xs :=
  Kd.R_mono h (fun k hk => ⟨trivial, fun he => by
    have q := (Kd.R_bound ho).1 k he.symm
    rcases hk with hk | hk
    · exact q.1.2 hk
    · have := q.2.2.1
      omega⟩)
theorem SetAt.keptP {w w' : World} {B : Nat} {seen : List (List UInt8)} {S : Nat → Prop} (h : SetAt w B seen) (hk : Kept w w' S) (hn : ¬ S B) : SetAt w' B seen := by
  obtain ⟨D, h1, h2, h3⟩ := h
  have hlt := h1.lt
  obtain ⟨es, clock, hb, F, hs, hD⟩ := h1
  exact ⟨D, ⟨es, clock, (hk.2 B hlt hn).trans hb, F, hs, hD⟩, h2, h3⟩
theorem Am {p : Prop} (h : p) : Aside0 p := Aside0.mk h
section
variable {α : Type} {d : Kd α} {e base : Nat} {ok : Nat → Prop} {w : World} {v : Value} {xs : List α}
theorem rA (h : d.R e w base ok v xs) (o : Obj) : d.R e (w.alloc o) base ok v xs := Kd.R_alloc h o
theorem rN (h : d.R e w base ok v xs) (n : Nat) : d.R e (w.drewN n) base ok v xs := Kd.R_drewN h n
theorem rD (h : d.R e w base ok v xs) : d.R e w.drew base ok v xs := Kd.R_drew h
theorem rM {ok' : Nat → Prop} (h : d.R e w base ok v xs) (hok : ∀ k, ok k → ok' k) : d.R e w base ok' v xs := Kd.R_mono h hok
theorem rL (h : d.R e w base ok v xs) : ∀ k, v.ownBlock = some k → k < w.heap.size := Kd.R_lt h
theorem lA {w W : World} (h : Below w.heap.size w W) (o : Obj) : Below w.heap.size w (W.alloc o) := below_alloc h o
theorem lN {B : Nat} {w W : World} (h : Below B w W) (n : Nat) : Below B w (W.drewN n) := pw_below_drewN h n
theorem lD {B : Nat} {w W : World} (h : Below B w W) : Below B w W.drew := below_drew1 h
end
end Go.Proofs.Ytdkbfcogmlghfaa.P
