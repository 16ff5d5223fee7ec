/- Part of the proof of the law PlaneLaws: the functions that it reaches, by contract. -/
import Derived.Test.YtdkbfcogmlghfaaProg
import Derived.Below
import Derived.Deep.Draws
import Derived.Deep.AppendLies
import Derived.Maps.AppendAt
import Derived.OwnWalk
import Derived.Laws.BytesArg
import Derived.Laws.MakeOwn
import Derived.Laws.OwnMore
import Derived.Deep.OwnRows
import Derived.Tactics
import Derived.Lib.ConvBytes
import Derived.Laws.Slices
import Derived.WalkKit
import Derived.KernelRfl
import Derived.RowKit3
import Derived.Deep.LoopGhost
import Derived.Deep.QuietTactic
import Derived.BigQuiet
import Derived.WideLaws
import Derived.Deep.DeepCutAuto
import Derived.Deep.CutBlock
import Derived.Deep.RegionHeld3
import Derived.Laws.Rows
import Derived.Lib.AppendStr
import Derived.ArgAppend
import Derived.Laws.IdiomCopy
import Derived.OrdersHeld
import Derived.Laws.BitsLemmas
import Derived.RowKit
import Derived.WalkMore
import Derived.Test.YtdkbfcogmlghfaaCPlaneLawsVWords
import Derived.Test.YtdkbfcogmlghfaaCPlaneLawsVLast
import Derived.Test.YtdkbfcogmlghfaaCPlaneLawsVTab
import Derived.Test.YtdkbfcogmlghfaaCPlaneLawsVQPut
import Derived.Test.YtdkbfcogmlghfaaCPlaneLawsVApart
import Derived.Test.YtdkbfcogmlghfaaCPlaneLawsVArr
import Derived.Test.YtdkbfcogmlghfaaCPlaneLawsVZeros
import Derived.Test.YtdkbfcogmlghfaaCPlaneLawsVFoot
import Derived.Test.YtdkbfcogmlghfaaCPlaneLawsVKept
import Derived.Test.YtdkbfcogmlghfaaCPlaneLawsVShare
import Derived.Test.YtdkbfcogmlghfaaCPlaneLawsVN
import Derived.Test.YtdkbfcogmlghfaaCPlaneLawsVEqStruct
import Derived.Test.YtdkbfcogmlghfaaCPlaneLawsVRepsOne
import Derived.Test.YtdkbfcogmlghfaaCPlaneLawsVInv
import Derived.Test.YtdkbfcogmlghfaaCPlaneLawsVGuard
import Derived.Test.YtdkbfcogmlghfaaCPlaneLawsVNEv
import Derived.Test.YtdkbfcogmlghfaaCPlaneLawsVMore
import Derived.Maps.OwnOps
import Derived.Maps.Views
import Derived.StringKeys
import Derived.Shelf.GgSortFunc.RowK
import Derived.Shelf.SlicesE.Compact
import Derived.Lib.Hide
import Derived.Shelf.SlicesE.Clone
import Derived.Shelf.SlSortCmp.Kit1
import Derived.Sort.WalkC4
import Derived.Sort.WalkB12
import Derived.Sort.AssemblyPlain
import Derived.RegionTactic
import Derived.Sort.WalkB3
import Derived.Sort.LotD4
import Derived.Sort.Walk7
import Derived.Shelf.SlSortCmp.Xorshift
import Derived.Sort.Walk13a
import Derived.Sort.LotB
import Derived.Deep.Cut
import Derived.Lib.BitFns
import Derived.Sort.WalkA14
import GoSem.Core.Float
import Derived.WalkLawsBesides
namespace Go.Proofs.Ytdkbfcogmlghfaa.P
open Go.RowKit Go.Proofs.YtdkbfcogmlghfaaW.PrintWords Go.Proofs.YtdkbfcogmlghfaaW.PrintLast Go.Proofs.YtdkbfcogmlghfaaW.PrintMore
attribute [local go_sem] max2_int min2_int max_two min_two max_three min_three max_four min_four
set_option linter.unusedVariables false
set_option linter.unusedSimpArgs false

def errW : Option Int → Value
  | none => .nilIface
  | some c => .iface 0 (.int .i64 c)
theorem errW_none : errW none = .nilIface := rfl
theorem errW_some (c : Int) : errW (some c) = .iface 0 (.int .i64 c) := rfl

theorem info5 : (Try.prog.info? 5).map (fun i => (i.zero, i.size, i.bytes)) = some (some (.int .u8 0), 1, 1) := by kernel_rfl
theorem info22 : (Try.prog.info? 22).map (fun i => (i.zero, i.size, i.bytes)) = some (some (.int .u32 0), 1, 4) := by kernel_rfl
theorem info24 : (Try.prog.info? 24).map (fun i => (i.zero, i.size, i.bytes)) = some (some (.agg #[(.int .u32 0), (.int .u32 0)]), 2, 8) := by kernel_rfl
/-! #### struct type 24 -/
structure S24 where
  f0 : Int
  f1 : Int
def z24 : S24 := ⟨(0 : Int), (0 : Int)⟩
def k24 : Kd S24 := Kd.iso (Kd.pair (Kd.int .u32) (Kd.int .u32)) (fun x : S24 => (x.f0, x.f1))
theorem k24_open {w : World} {x : S24} {cs : List Value} (h : k24.K w x cs) : cs = [.int .u32 x.f0, .int .u32 x.f1] := by
  obtain ⟨_, _, rfl, rfl, rfl⟩ := h
  exact rfl
theorem k24_openM {w : World} {base : Nat} {ok : Nat → Prop} {x : S24} {cs : List Value} (h : k24.M w base ok x cs) : cs = [.int .u32 x.f0, .int .u32 x.f1] := by
  obtain ⟨_, _, rfl, rfl, rfl⟩ := h
  exact rfl
theorem k24_mk (w : World) (x : S24)  : k24.K w x [.int .u32 x.f0, .int .u32 x.f1] := ⟨[.int .u32 x.f0], [.int .u32 x.f1], rfl, rfl, rfl⟩
theorem k24_mkM (w : World) (base : Nat) (ok : Nat → Prop) (x : S24)  : k24.M w base ok x [.int .u32 x.f0, .int .u32 x.f1] := ⟨[.int .u32 x.f0], [.int .u32 x.f1], rfl, rfl, rfl⟩
def rd_T24 (xs : List S24) (i : Int) : S24 := xs.getD i.toNat z24
theorem at_T24 {w : World} {A : Option Addr} {n : Nat} {xs : List S24} (h : Kd.C k24 w A n xs) (i : Int) (h0 : 0 ≤ i) (h1 : i < n) : ∃ ad , A = some ad ∧ w.cell? (ad.add (i.toNat * 2)) = some (.int .u32 (rd_T24 xs i).f0) ∧ w.cell? ⟨(ad.add (i.toNat * 2)).block, (ad.add (i.toNat * 2)).off + 1, none⟩ = some (.int .u32 (rd_T24 xs i).f1) := by
  obtain ⟨ad, c, e, _, hK, hc0⟩ := Kd.C_get h z24 i h0 h1
  have hc : ∀ j u, c[j]? = some u → w.cell? (ad.add (i.toNat * 2 + j)) = some u := hc0
  obtain rfl := k24_open hK
  exact ⟨ad, e, hc 0 _ rfl, by rw [← add_field _ _ 1 (by omega)]; exact hc 1 _ rfl⟩

def rd_L3 (xs : List (List S24)) (i : Int) : (List S24) := xs.getD i.toNat ([] : List S24)
theorem at_L3 {w : World} {A : Option Addr} {n : Nat} {xs : List (List S24)} (h : Kd.C (Kd.slice 24 k24) w A n xs) (i : Int) (h0 : 0 ≤ i) (h1 : i < n) : ∃ ad A0 c0, A = some ad ∧ w.cell? (ad.add i.toNat) = some (.slice A0 (rd_L3 xs i).length c0) ∧ (rd_L3 xs i).length ≤ c0 ∧ k24.C w A0 (rd_L3 xs i).length (rd_L3 xs i) := by
  obtain ⟨ad, c, e, _, hK, hc0⟩ := Kd.C_get h ([] : List S24) i h0 h1
  have hc : ∀ j u, c[j]? = some u → w.cell? (ad.add (i.toNat * 1 + j)) = some u := hc0
  obtain ⟨A0, c0, rfl, l0, g0⟩ := hK
  exact ⟨ad, A0, c0, e, by have hq := hc 0 _ rfl; rwa [Nat.mul_one, Nat.add_zero] at hq, l0, g0⟩

def rd_L4 (xs : List (List Int)) (i : Int) : (List Int) := xs.getD i.toNat ([] : List Int)
theorem at_L4 {w : World} {A : Option Addr} {n : Nat} {xs : List (List Int)} (h : Kd.C (Kd.slice 22 (Kd.int .u32)) w A n xs) (i : Int) (h0 : 0 ≤ i) (h1 : i < n) : ∃ ad A0 c0, A = some ad ∧ w.cell? (ad.add i.toNat) = some (.slice A0 (rd_L4 xs i).length c0) ∧ (rd_L4 xs i).length ≤ c0 ∧ (Kd.int .u32).C w A0 (rd_L4 xs i).length (rd_L4 xs i) := by
  obtain ⟨ad, c, e, _, hK, hc0⟩ := Kd.C_get h ([] : List Int) i h0 h1
  have hc : ∀ j u, c[j]? = some u → w.cell? (ad.add (i.toNat * 1 + j)) = some u := hc0
  obtain ⟨A0, c0, rfl, l0, g0⟩ := hK
  exact ⟨ad, A0, c0, e, by have hq := hc 0 _ rfl; rwa [Nat.mul_one, Nat.add_zero] at hq, l0, g0⟩

end Go.Proofs.Ytdkbfcogmlghfaa.P

namespace Go.Proofs.Ytdkbfcogmlghfaa.P
open Go.RowKit Go.Proofs.YtdkbfcogmlghfaaW.PrintWords Go.Proofs.YtdkbfcogmlghfaaW.PrintLast Go.Proofs.YtdkbfcogmlghfaaW.PrintMore
attribute [local go_sem] max2_int min2_int max_two min_two max_three min_three max_four min_four
set_option linter.unusedVariables false
set_option linter.unusedSimpArgs false

theorem eqA24 (d : Nat) (w : World) (x0 y0 : Int) (x1 y1 : Int) :
    (Op.equalIn (d + 2) 24 (.agg #[.int .u32 x0, .int .u32 x1]) (.agg #[.int .u32 y0, .int .u32 y1])).run Try.prog w = .ok (x0 == y0 && (x1 == y1)) w := by
  refine eqA_of Try.underlying24 (by kernel_rfl) ?_
  refine eqf_cons (by rfl) (by go_simp; rfl) (by go_simp; rfl) (by go_simp) ?_
  exact eqf_last (by rfl) (by go_simp; rfl) (by go_simp; rfl) (by go_simp)
end Go.Proofs.Ytdkbfcogmlghfaa.P

namespace Go.Proofs.Ytdkbfcogmlghfaa.P
open Go.RowKit Go.Proofs.YtdkbfcogmlghfaaW.PrintWords Go.Proofs.YtdkbfcogmlghfaaW.PrintLast Go.Proofs.YtdkbfcogmlghfaaW.PrintMore
attribute [local go_sem] max2_int min2_int max_two min_two max_three min_three max_four min_four
set_option linter.unusedVariables false
set_option linter.unusedSimpArgs false

/-! ### dragomanref01_Nums: function 14 -/
def q1z.l0 : Nat → List Int → List Int → Int → Int → Option (Bool)
 | 0, _, _, _, _ => none
 | k + 1, x0, x1, x12, x13 => if x13 < x12 then (if 0 ≤ x13 then (if x13 < (x0.length : Int) then (if x13 < (x1.length : Int) then (if (rd x0 x13) = (rd x1 x13) then (q1z.l0 k x0 x1 x12 (wrap64 (x13 + 1))) else (some false)) else (none)) else (none)) else (none)) else (some true)
def q1z.f (k : Nat) (l0 : List Int) (l1 : List Int) : Option (Bool) := if (l0.length : Int) = (l1.length : Int) then (q1z.l0 k l0 l1 (l0.length : Int) 0) else (some false)
theorem q1z.mono_l : ∀ k, (∀ y0 y1 y2 y3, LeO (q1z.l0 k y0 y1 y2 y3) (q1z.l0 (k + 1) y0 y1 y2 y3))
 | 0 => fun _ _ _ _ r h => by simp [q1z.l0] at h
 | k + 1 => by
  have ih0 := q1z.mono_l k
  ·
   intro y0 y1 y2 y3
   unfold q1z.l0
   repeat' first
   | (with_reducible exact ih0 _ _ _ _)
   | (with_reducible exact LeO.refl _)
   | (with_reducible exact LeO.none _)
   | (with_reducible refine LeO.ite ?_ ?_)
   | (with_reducible refine LeO.bind ?_ (fun _ => ?_))
   | exact ih0 _ _ _ _
   | exact LeO.none _
   | refine LeO.ite ?_ ?_
   | refine LeO.bind ?_ (fun _ => ?_)
theorem q1z.mono : ∀ a0 a1 k, LeO (q1z.f k a0 a1) (q1z.f (k + 1) a0 a1) := by
 intro a0 a1 k
 have ih0 := q1z.mono_l k
 unfold q1z.f
 repeat' first
   | (with_reducible exact ih0 _ _ _ _)
   | (with_reducible exact LeO.refl _)
   | (with_reducible exact LeO.none _)
   | (with_reducible refine LeO.ite ?_ ?_)
   | (with_reducible refine LeO.bind ?_ (fun _ => ?_))
   | exact ih0 _ _ _ _
   | exact LeO.none _
   | refine LeO.ite ?_ ?_
   | refine LeO.bind ?_ (fun _ => ?_)
set_option maxHeartbeats 8000000 in
set_option maxRecDepth 100000 in
theorem q1z.calls (k : Nat) (A0 : Option Addr) (c0 : Nat) (l0 : List Int) (A1 : Option Addr) (c1 : Nat) (l1 : List Int) (r : Bool) (w : World) (hr0 : Kd.C (Kd.int .u32) w A0 l0.length l0) (hc0 : l0.length ≤ c0) (hr1 : Kd.C (Kd.int .u32) w A1 l1.length l1) (hc1 : l1.length ≤ c1) (h : q1z.f k l0 l1 = some r) :
  Calls Try.prog 14 #[.slice A0 l0.length c0, .slice A1 l1.length c1] w fun e w' => e = .returned (.bool r) ∧ Drawn0 w w' := by
 have HR0 := Aside0.mk hr0
 have HC0 := Aside0.mk hc0
 clear hr0 hc0
 have HR1 := Aside0.mk hr1
 have HC1 := Aside0.mk hc1
 clear hr1 hc1
 have H : (if (l0.length : Int) = (l1.length : Int) then (q1z.l0 k l0 l1 (l0.length : Int) 0) else (some false)) = some r := h
 clear h
 by_cases c3 : (l0.length : Int) = (l1.length : Int)
 ·
  rw [if_pos c3] at H
  have c3b0 : ((l0.length : Int) == (l1.length : Int)) = true := beq_iff_eq.mpr c3
  have c3b1 : ((l0.length : Int) != (l1.length : Int)) = false := bne_eq_false_iff_eq.mpr c3
  have c3b2 : (l0.length == l1.length) = true := by first | simpa using c3 | (simp at c3 ⊢; omega)
  clear c3
  have H' := Aside0.mk H
  clear H
  go_enter Try.func14, Try.ntmps14
  go_wp2
  repeat (go_quiet (fail); try go_wp2)
  go_loopg [13] k (fun kq v13 w' => ∃ (x13_1 : Int), v13 = .int .i64 x13_1 ∧ Aside0 (q1z.l0 kq l0 l1 (l0.length : Int) x13_1 = some r) ∧ Aside0 (kq ≤ k) ∧ Drawn0 w w')
  case atStart => exact ⟨(0), (by first | rfl | (simp; done) | (simp [*]; done)), H', ⟨Nat.le_refl _⟩, by repeat (first | exact Drawn0.refl _ | apply Drawn0.step)⟩
  case round =>
   clear H'
   try clear c1
   try clear p2
   try clear c3
   try clear c3b0
   try clear c3b1
   try clear c3b2
   obtain ⟨x13_1, rfl, HA, HK1, ⟨m1, rfl⟩⟩ := hrel
   cases gk with
   | zero => exact absurd HA.out (by simp [q1z.l0])
   | succ k1 =>
    have H := HA.out
    clear HA
    simp only [q1z.l0] at H
    by_cases c4 : x13_1 < (l0.length : Int)
    ·
     rw [if_pos c4] at H
     have c4b0 : decide (x13_1 < (l0.length : Int)) = true := decide_eq_true c4
     clear c4
     by_cases c5 : 0 ≤ x13_1
     ·
      rw [if_pos c5] at H
      have c5b0 : decide (0 ≤ x13_1) = true := decide_eq_true c5
      clear c5
      by_cases c6 : x13_1 < (l0.length : Int)
      ·
       rw [if_pos c6] at H
       have c6b0 : decide (x13_1 < (l0.length : Int)) = true := decide_eq_true c6
       clear c6
       by_cases c7 : x13_1 < (l1.length : Int)
       ·
        rw [if_pos c7] at H
        have c7b0 : decide (x13_1 < (l1.length : Int)) = true := decide_eq_true c7
        clear c7
        by_cases c8 : (rd l0 x13_1) = (rd l1 x13_1)
        ·
         rw [if_pos c8] at H
         have c8b0 : ((rd l0 x13_1) == (rd l1 x13_1)) = true := beq_iff_eq.mpr c8
         have c8b1 : ((rd l0 x13_1) != (rd l1 x13_1)) = false := bne_eq_false_iff_eq.mpr c8
         clear c8
         have H' := Aside0.mk H
         clear H
         have p1 : 0 ≤ (x13_1 : Int) := of_decide_eq_true (by first | (with_reducible assumption) | assumption)
         have q1 : x13_1 < (l0.length : Int) := of_decide_eq_true (by first | (with_reducible assumption) | assumption)
         obtain ⟨ad1, e1, hx1_0⟩ := Kd.at_int HR0.out x13_1 p1 q1
         cases e1
         replace p1 := eq_true p1
         replace q1 := eq_true q1
         have p2 : 0 ≤ (x13_1 : Int) := of_decide_eq_true (by first | (with_reducible assumption) | assumption)
         have q2 : x13_1 < (l1.length : Int) := of_decide_eq_true (by first | (with_reducible assumption) | assumption)
         obtain ⟨ad2, e2, hx2_0⟩ := Kd.at_int HR1.out x13_1 p2 q2
         cases e2
         replace p2 := eq_true p2
         replace q2 := eq_true q2
         go_wp2
         repeat (go_quiet (fail); try go_wp2)
         go_roundg k1
         case measure => have := HK1.out; omega
         case rel => exact ⟨(wrap64 (x13_1 + 1)), (by first | rfl | (simp; done) | (simp [*]; done)), H', ⟨by have := HK1.out; omega⟩, by repeat (first | exact Drawn0.refl _ | apply Drawn0.step)⟩
        ·
         rw [if_neg c8] at H
         have c8b0 : ((rd l0 x13_1) == (rd l1 x13_1)) = false := beq_eq_false_iff_ne.mpr c8
         have c8b1 : ((rd l0 x13_1) != (rd l1 x13_1)) = true := bne_iff_ne.mpr c8
         obtain rfl := Option.some.inj H
         have p1 : 0 ≤ (x13_1 : Int) := of_decide_eq_true (by first | (with_reducible assumption) | assumption)
         have q1 : x13_1 < (l0.length : Int) := of_decide_eq_true (by first | (with_reducible assumption) | assumption)
         obtain ⟨ad1, e1, hx1_0⟩ := Kd.at_int HR0.out x13_1 p1 q1
         cases e1
         replace p1 := eq_true p1
         replace q1 := eq_true q1
         have p2 : 0 ≤ (x13_1 : Int) := of_decide_eq_true (by first | (with_reducible assumption) | assumption)
         have q2 : x13_1 < (l1.length : Int) := of_decide_eq_true (by first | (with_reducible assumption) | assumption)
         obtain ⟨ad2, e2, hx2_0⟩ := Kd.at_int HR1.out x13_1 p2 q2
         cases e2
         replace p2 := eq_true p2
         replace q2 := eq_true q2
         go_wp2
         repeat (go_quiet (fail); try go_wp2)
         go_ret
         exact ⟨by first | rfl | (simp; done) | (simp [*]; done), by repeat (first | exact Drawn0.refl _ | apply Drawn0.step)⟩
       ·
        rw [if_neg c7] at H
        exact absurd H (by simp)
      ·
       rw [if_neg c6] at H
       exact absurd H (by simp)
     ·
      rw [if_neg c5] at H
      exact absurd H (by simp)
    ·
     rw [if_neg c4] at H
     have c4b0 : decide (x13_1 < (l0.length : Int)) = false := decide_eq_false c4
     clear c4
     obtain rfl := Option.some.inj H
     go_wp2
     repeat (go_quiet (fail); try go_wp2)
     go_ret
     exact ⟨by first | rfl | (simp; done) | (simp [*]; done), by repeat (first | exact Drawn0.refl _ | apply Drawn0.step)⟩
 ·
  rw [if_neg c3] at H
  have c3b0 : ((l0.length : Int) == (l1.length : Int)) = false := beq_eq_false_iff_ne.mpr c3
  have c3b1 : ((l0.length : Int) != (l1.length : Int)) = true := bne_iff_ne.mpr c3
  have c3b2 : (l0.length == l1.length) = false := by first | simpa using c3 | (simp at c3 ⊢; omega)
  obtain rfl := Option.some.inj H
  go_enter Try.func14, Try.ntmps14
  go_wp2
  repeat (go_quiet (fail); try go_wp2)
  go_ret
  exact ⟨by first | rfl | (simp; done) | (simp [*]; done), by repeat (first | exact Drawn0.refl _ | apply Drawn0.step)⟩

end Go.Proofs.Ytdkbfcogmlghfaa.P

namespace Go.Proofs.Ytdkbfcogmlghfaa.P
open Go.RowKit Go.Proofs.YtdkbfcogmlghfaaW.PrintWords Go.Proofs.YtdkbfcogmlghfaaW.PrintLast Go.Proofs.YtdkbfcogmlghfaaW.PrintMore
attribute [local go_sem] max2_int min2_int max_two min_two max_three min_three max_four min_four
set_option linter.unusedVariables false
set_option linter.unusedSimpArgs false

/-! ### dragomanlaw02_point: function 18 -/
def q2z.f (a0 : Int) (a1 : Int) : Option (Int) := some (((65536 * a0) + a1) % 4294967296)
set_option maxHeartbeats 8000000 in
set_option maxRecDepth 100000 in
theorem q2z.calls (a0 : Int) (a1 : Int) (r : Int) (w : World) (h : q2z.f a0 a1 = some r) :
  Calls Try.prog 18 #[.int .u32 a0, .int .u32 a1] w fun e w' => e = .returned (.int .u32 r) ∧ Drawn0 w w' := by
 have H : (some (((65536 * a0) + a1) % 4294967296)) = some r := h
 clear h
 obtain rfl := Option.some.inj H
 go_enter Try.func18, Try.ntmps18
 go_wp2
 go_ret
 exact ⟨by first | rfl | (simp; done) | (simp [*]; done), by repeat (first | exact Drawn0.refl _ | apply Drawn0.step)⟩

end Go.Proofs.Ytdkbfcogmlghfaa.P

namespace Go.Proofs.Ytdkbfcogmlghfaa.P
open Go.ChangeShapes Go.WideShapes Go.RowKit Go.Proofs.YtdkbfcogmlghfaaW.PrintWords Go.Proofs.YtdkbfcogmlghfaaW.PrintLast Go.Proofs.YtdkbfcogmlghfaaW.PrintMore Go.Maps
set_option linter.unusedVariables false
set_option linter.unusedSimpArgs false
/-! A set of strings: a map[string]bool that only ever holds true. -/
/-- Block B is a map that holds true at the strings seen, and nothing else. -/
def SetAt (w : World) (B : Nat) (seen : List (List UInt8)) : Prop :=
  ∃ D : DataW Unit, w.ownsMap Try.prog 9 (plainElem Try.prog 4) B seen.length D ∧ IsMap D ∧ ∀ b : ByteArray, D.atKey (.string b.data.toList) (.lit (.bool false)) = .lit (.bool (decide (b.data.toList ∈ seen)))
theorem SetAt.made (w : World) : SetAt (w.alloc (.map #[] 0)) w.heap.size [] :=
  ⟨_, World.ownsMap_made w Try.prog 9 _, isMap_empty, fun b => by simp [DataW.atKey]⟩
theorem SetAt.kept {w w' : World} {B : Nat} {seen : List (List UInt8)} {row : Option Nat} (h : SetAt w B seen) (hg : w.grownBy w' row) (hne : some B ≠ row) : SetAt w' B seen := by
  obtain ⟨D, h1, h2, h3⟩ := h
  exact ⟨D, h1.kept hg hne, h2, h3⟩
theorem SetAt.below {w w' : World} {B : Nat} {seen : List (List UInt8)} (h : SetAt w B seen) (hb : Below w.heap.size w w') : SetAt w' B seen := h.kept (grown_of_below hb none) (by simp)
theorem SetAt.map {w : World} {B : Nat} {seen : List (List UInt8)} (h : SetAt w B seen) : ∃ es c, w.heap[B]? = some (.map es c) := by
  obtain ⟨D, ⟨es, c, hb, _⟩, _⟩ := h
  exact ⟨es, c, hb⟩
theorem SetAt.drewN {w : World} {B : Nat} {seen : List (List UInt8)} (h : SetAt w B seen) (n : Nat) : SetAt (w.drewN n) B seen := h
theorem SetAt.drew {w : World} {B : Nat} {seen : List (List UInt8)} (h : SetAt w B seen) : SetAt w.drew B seen := h
theorem SetAt.alloc {w : World} {B : Nat} {seen : List (List UInt8)} (h : SetAt w B seen) (o : Obj) : SetAt (w.alloc o) B seen := h.kept (World.grownBy_alloc w o none) (by simp)
section
variable {α : Type} {d : Kd α} {e : Nat} {w w1 : World} {base B : Nat} {ok : Nat → Prop} {v : Value} {xs : List α} {seen : List (List UInt8)}
/-- A row is none of the set's block. -/
theorem SetAt.ne (hs : SetAt w B seen) (h : d.R e w base ok v xs) : some B ≠ v.ownBlock := by
  intro he
  obtain ⟨es, c, hb⟩ := hs.map
  obtain ⟨_, inner, ho, _⟩ := h
  obtain ⟨cells, hc⟩ := own_typed ho B he.symm
  rw [hb] at hc
  exact absurd hc (by simp)
theorem SetAt.row (hs : SetAt w B seen) (h : d.R e w base ok v xs) (hg : w.grownBy w1 (some B)) : d.R e w1 base ok v xs :=
  Kd.R_mono (Kd.R_grown (Kd.R_bound h) hg (fun k hk he => by
    obtain ⟨_, _, _, q, _, cells, hc⟩ := hk
    obtain ⟨es, c, hb⟩ := hs.map
    have hkB : k = B := by injection he
    rw [hkB, hb] at hc
    exact absurd hc (by simp))) (fun k hk => hk.1)
end
theorem law9 : Keyed Try.prog 9 := string_keyed Try.underlying9
theorem zero4 (w : World) : (zeroValue 4).run Try.prog w = .ok (.bool false) w := by kernel_rfl
theorem plainElem_bool_inv {v : Value} {z : DataW Unit × List MemPlace} (h : plainElem Try.prog 4 v = some z) : ∃ x, v = .bool x ∧ z = (.lit (.bool x), []) := by
  unfold plainElem at h
  rw [Try.underlying4] at h
  cases v <;> simp at h
  exact ⟨_, rfl, h.symm⟩
/-- 'seen[k]'. -/
theorem wpList_lookup_set (w : World) {ops : Array Oper} {rest : List Oper} {o : Oper} {a : Act} {Q : Exit → Act → World → Prop}
    (hg : o.guard = none) (m x : Operand) (hop : o.op = Op.lookup 48 m x false) (B : Nat) (seen : List (List UInt8)) (hm : a.eval m = .map (some B)) (hs : SetAt w B seen) (b : ByteArray) (hx : a.eval x = .string b) (hb : b.size ≤ maxLen)
    (hK : wpList Try.prog ops Q rest (a.put o.dst (.bool (decide (b.data.toList ∈ seen)))) w) : wpList Try.prog ops Q (o :: rest) a w := by
  obtain ⟨D, h1, h2, h3⟩ := hs
  refine wpList_plain hg fun K' hK' => ?_
  obtain ⟨v, ps, hrun, hv⟩ := h1.lookup law9 Try.underlying48 (zero4 w) (plainElem_bool Try.underlying4 false) (Go.WideMaps.keyOf_string_mk Try.underlying9 hb)
  obtain ⟨c, rfl, hc⟩ := plainElem_bool_inv hv
  rw [h3] at hc
  have hc' : decide (b.data.toList ∈ seen) = c := by simpa using (Prod.mk.inj hc).1
  unfold Oper.wp
  simp only [execOp, hop, hm, hx]
  simp [Result.andThen]
  rw [hc'] at hK
  rw [hrun]
  exact hK' _ _ hK
/-- 'seen[k] = true'. -/
theorem wpList_update_set (w : World) {ops : Array Oper} {rest : List Oper} {o : Oper} {a : Act} {Q : Exit → Act → World → Prop}
    (hg : o.guard = none) (m x v : Operand) (hop : o.op = Op.mapUpdate 48 m x v) (B : Nat) (seen : List (List UInt8)) (hm : a.eval m = .map (some B)) (hs : SetAt w B seen) (hn : seen.length < maxLen) (b : ByteArray) (hx : a.eval x = .string b) (hb : b.size ≤ maxLen) (hv : a.eval v = .bool true)
    (hK : ∀ w', SetAt w' B (b.data.toList :: seen) → w.grownBy w' (some B) → wpList Try.prog ops Q rest (a.put o.dst undef) w') : wpList Try.prog ops Q (o :: rest) a w := by
  obtain ⟨D, h1, h2, h3⟩ := hs
  have hkey := Go.WideMaps.keyOf_string_mk (P := Try.prog) Try.underlying9 hb
  refine wpList_mapUpdate_own w hg m x v 48 hop 9 4 law9 Try.underlying48 _ B seen.length D hm h1 hn _ _ (.string b.data.toList) hx hv hkey (.lit (.bool true)) [] (plainElem_bool Try.underlying4 true) ?_
  intro w' hw hgr
  refine hK w' ⟨_, hw, h2.put _ _, fun b' => ?_⟩ hgr
  by_cases e : b' = b
  · subst e
    rw [atKey_put_same h2 (law9.key hkey)]
    simp
  · have hne : (Lit.string b'.data.toList) ≠ .string b.data.toList := by
      intro h
      injection h with h
      exact e (ByteArray.ext (Array.ext' h))
    rw [atKey_put_other hne, h3]
    have hl : b'.data.toList ≠ b.data.toList := fun h => hne (by rw [h])
    have : (b'.data.toList ∈ b.data.toList :: seen) = (b'.data.toList ∈ seen) := by simp [hl]
    simp only [this]
end Go.Proofs.Ytdkbfcogmlghfaa.P

namespace Go.Proofs.Ytdkbfcogmlghfaa.P
open Go.RowKit Go.Proofs.YtdkbfcogmlghfaaW.PrintWords Go.Proofs.YtdkbfcogmlghfaaW.PrintLast Go.Proofs.YtdkbfcogmlghfaaW.PrintMore Go.Sort
set_option linter.unusedVariables false
variable {α : Type} [Inhabited α] {d : Kd α} {enc : α → List Value} {e base g cap n : Nat} {ok ok' : Nat → Prop} {w w' : World} {v : Value} {xs ys : List α} {cur : Array Value}

theorem getElem!_toArray_of (xs : List α) (i : Nat) (h : i < xs.length) : xs.toArray[i]! = xs[i] := by
  rw [getElem!_pos xs.toArray i (by simpa using h)]
  simp
theorem getElem!_list (l : List Value) (i : Nat) (h : i < l.length) : l[i]! = l[i] := getElem!_pos l i h

/-- A row of the call's own whose elements lead to nothing: as the sort's contracts want it. -/
theorem bridge_down (hflat : ∀ {w : World} {base : Nat} {ok : Nat → Prop} {x : α} {cs : List Value}, d.M w base ok x cs → cs = enc x) (hk : ∀ x, (enc x).length = d.sz) (hpos : 0 < d.sz) (h : d.R e w base ok v xs) :
    (v = .slice none 0 0 ∧ xs = []) ∨ ∃ g cap cur, v = .slice (some ⟨g, 0, none⟩) xs.length cap ∧ base ≤ g ∧ w.heap[g]? = some (.cells cur e (0, 0)) ∧ xs.length ≤ cap ∧ cap ≤ maxLen ∧ cur.size = cap * d.sz ∧ ok g ∧ HoldsK enc d.sz w g 0 xs.toArray := by
  obtain ⟨h0, inner, ⟨hlen, hv⟩, hreps⟩ := h
  rcases hv with ⟨hv, hn⟩ | ⟨g, cap, cur, rfl, hg, hb, hnc, hcm, hcs, htake⟩
  · exact .inl ⟨hv, List.length_eq_zero_iff.1 hn⟩
  · refine .inr ⟨g, cap, cur, rfl, hg, hb, hnc, hcm, hcs, h0 g rfl, ?_⟩
    intro j hj
    rw [size_flatK, List.size_toArray] at hj
    rw [Nat.zero_add]
    refine ⟨?_, blk_frozen hb j⟩
    rw [blk_cell hb j, id, get_flatK enc d.sz xs.toArray j (by simpa using hj)]
    have hq : j / d.sz < xs.length := Nat.div_lt_of_lt_mul (by rw [Nat.mul_comm]; exact hj)
    rw [getElem!_toArray_of xs _ hq]
    have hr := hflat (hreps.2 (j / d.sz) xs[j / d.sz] (List.getElem?_eq_getElem hq))
    have hm : j % d.sz < d.sz := Nat.mod_lt _ hpos
    rw [getElem!_list _ _ (by rw [hk]; exact hm)]
    have e1 : (enc xs[j / d.sz])[j % d.sz]? = cur[j]? := by
      rw [← hr, List.getElem?_take_of_lt hm, List.getElem?_drop]
      have hjj : j / d.sz * d.sz + j % d.sz = j := Nat.div_add_mod' j d.sz
      rw [hjj, ← htake, List.getElem?_take_of_lt hj]
      simp
    rw [← e1]
    exact List.getElem?_eq_getElem (by rw [hk]; exact hm)

/-- What stands in a world of the sort's. -/
theorem sortWorld_heap (w : World) (g m : Nat) (D : Array α) (os : Array Obj) (hb : w.heap[g]? = some (.cells cur e (0, 0))) :
    (grow (putRowK enc d.sz (Sort.ahead w m) g 0 D) os).heap[g]? = some (.cells (putCells id 0 (flatK enc d.sz D) cur) e (0, 0)) ∧
    (∀ k, k < w.heap.size → k ≠ g → (grow (putRowK enc d.sz (Sort.ahead w m) g 0 D) os).heap[k]? = w.heap[k]?) ∧ w.heap.size ≤ (grow (putRowK enc d.sz (Sort.ahead w m) g 0 D) os).heap.size := by
  have hg := blk_lt hb
  have hsz : (putRowK enc d.sz (Sort.ahead w m) g 0 D).heap.size = w.heap.size := by
    unfold putRowK
    rw [size_putRow]
    rfl
  have hlt : ∀ k : Nat, k < w.heap.size → (grow (putRowK enc d.sz (Sort.ahead w m) g 0 D) os).heap[k]? = (putRowK enc d.sz (Sort.ahead w m) g 0 D).heap[k]? := fun k hk => by
    unfold grow
    exact Array.getElem?_append_left (by rw [hsz]; exact hk)
  have hmod : ∀ k : Nat, (putRowK enc d.sz (Sort.ahead w m) g 0 D).heap[k]? = (w.heap.modify g (onCells (putCells id 0 (flatK enc d.sz D))))[k]? := fun k => rfl
  refine ⟨?_, ?_, ?_⟩
  · rw [hlt g hg, hmod, Array.getElem?_modify, if_pos rfl, hb]
    rfl
  · intro k hk hne
    rw [hlt k hk, hmod, Array.getElem?_modify, if_neg (fun h => hne h.symm)]
  · unfold grow
    rw [Array.size_append, hsz]
    omega

theorem take_putCellsK (hk : ∀ x, (enc x).length = d.sz) (hpos : 0 < d.sz) (hc : ys.length * d.sz ≤ cur.size) :
    ((putCells id 0 (flatK enc d.sz ys.toArray) cur).toList.take (ys.length * d.sz)).length = ys.length * d.sz ∧
    ∀ j p, ys[j]? = some p → ((((putCells id 0 (flatK enc d.sz ys.toArray) cur).toList.take (ys.length * d.sz)).drop (j * d.sz)).take d.sz) = enc p := by
  have hs : (putCells id 0 (flatK enc d.sz ys.toArray) cur).size = cur.size := by simp [putCells]
  have hs2 : (putCells id 0 (flatK enc d.sz ys.toArray) cur).toList.length = cur.size := by rw [Array.length_toList]; exact hs
  refine ⟨by rw [List.length_take, hs2]; omega, ?_⟩
  intro j p hp
  obtain ⟨hj, rfl⟩ := List.getElem?_eq_some_iff.1 hp
  have hjk : j * d.sz + d.sz ≤ ys.length * d.sz := by rw [← Nat.succ_mul]; exact Nat.mul_le_mul_right _ hj
  apply List.ext_getElem?
  intro i
  by_cases hi : i < d.sz
  · rw [List.getElem?_take_of_lt hi, List.getElem?_drop, List.getElem?_take_of_lt (by omega)]
    have ht : j * d.sz + i < ys.length * d.sz := by omega
    rw [Array.getElem?_toList]
    unfold putCells
    rw [Array.getElem?_mapIdx, Array.getElem?_eq_getElem (show j * d.sz + i < cur.size by omega), Option.map_some, if_pos ⟨Nat.zero_le _, by rw [size_flatK]; simpa using ht⟩, Nat.sub_zero, id,
      get_flatK enc d.sz ys.toArray _ (by simpa using ht)]
    have e1 : (j * d.sz + i) / d.sz = j := by rw [Nat.mul_comm, Nat.mul_add_div hpos, Nat.div_eq_of_lt hi, Nat.add_zero]
    have e2 : (j * d.sz + i) % d.sz = i := by rw [Nat.mul_comm, Nat.mul_add_mod, Nat.mod_eq_of_lt hi]
    rw [e1, e2, getElem!_toArray_of ys j hj, getElem!_list _ _ (by rw [hk]; exact hi), List.getElem?_eq_getElem (by rw [hk]; exact hi)]
  · rw [List.getElem?_eq_none (by rw [List.length_take]; omega), List.getElem?_eq_none (by rw [hk]; omega)]

/-- .. and back: what a call says that wrote the row alone, and laid blocks. -/
theorem bridge_up (hmk : ∀ (w : World) (base : Nat) (ok : Nat → Prop) (x : α), d.M w base ok x (enc x)) (hk : ∀ x, (enc x).length = d.sz) (hpos : 0 < d.sz) {W0 : World} (hB : Below W0.heap.size W0 w) (hbase : W0.heap.size ≤ g)
    (hb : w.heap[g]? = some (.cells cur e (0, 0))) (hlen : ys.length = n) (hnc : n ≤ cap) (hcm : cap ≤ maxLen) (hcs : cur.size = cap * d.sz) (hok : ok g) (m : Nat) (os : Array Obj) :
    d.R e (grow (putRowK enc d.sz (Sort.ahead w m) g 0 ys.toArray) os) W0.heap.size (fun k_ => ok k_ ∨ w.heap.size ≤ k_) (.slice (some ⟨g, 0, none⟩) n cap) ys ∧
    Below W0.heap.size W0 (grow (putRowK enc d.sz (Sort.ahead w m) g 0 ys.toArray) os) ∧ Kept w (grow (putRowK enc d.sz (Sort.ahead w m) g 0 ys.toArray) os) ok := by
  obtain ⟨h1, h2, h3⟩ := sortWorld_heap (d := d) (enc := enc) w g m ys.toArray os hb
  subst hlen
  have hmul : ys.length * d.sz ≤ cap * d.sz := Nat.mul_le_mul_right _ hnc
  obtain ⟨t1, t2⟩ := take_putCellsK (d := d) (enc := enc) (ys := ys) (cur := cur) hk hpos (by omega)
  refine ⟨⟨?_, _, ⟨t1, .inr ⟨g, cap, _, rfl, hbase, h1, hnc, hcm, by simp [putCells, hcs], rfl⟩⟩, t1, ?_⟩, ⟨hB.os, hB.tape, hB.output, Nat.le_trans hB.size h3, ?_⟩, h3, ?_⟩
  · intro k hk'
    have : g = k := by simpa [Value.ownBlock] using hk'
    exact .inl (this ▸ hok)
  · intro j p hp
    rw [t2 j p hp]
    exact hmk _ _ _ _
  · intro k hk'
    rw [h2 k (Nat.lt_of_lt_of_le hk' hB.size) (by omega)]
    exact hB.block k hk'
  · intro k hk' hn
    exact h2 k hk' (fun he => hn (he ▸ hok))
end Go.Proofs.Ytdkbfcogmlghfaa.P

namespace Go.Proofs.Ytdkbfcogmlghfaa.P
open Go.RowKit Go.Proofs.YtdkbfcogmlghfaaW.PrintWords Go.Proofs.YtdkbfcogmlghfaaW.PrintLast Go.Proofs.YtdkbfcogmlghfaaW.PrintMore Go.Sort Go.Shelf Go.Lib
set_option linter.unusedVariables false
def lay_Compact_ren : Go.Shelf.Ren := ⟨fun | 43 => 23 | n => n, fun | 22 => 31 | 23 => 22 | 3 => 3 | 4 => 4 | 0 => 0 | n => n, fun n => n⟩
theorem lay_Compact : SlLaysE.n43 Try.prog lay_Compact_ren := {
  mixed := by kernel_rfl,
  f43 := ⟨Try.f23.name, by decide, Try.func23.trans (congrArg some (by kernel_rfl))⟩,
  t0 := Try.underlying0,
  a0 := Try.isAgg0,
  z0 := Try.sizeOf0,
  v0 := Try.zeroValue0,
  t3 := Try.underlying3,
  a3 := Try.isAgg3,
  z3 := Try.sizeOf3,
  v3 := Try.zeroValue3,
  t4 := Try.underlying4,
  a4 := Try.isAgg4,
  z4 := Try.sizeOf4,
  v4 := Try.zeroValue4,
  t22 := Try.underlying31,
  a22 := Try.isAgg31,
  z22 := Try.sizeOf31,
  v22 := Try.zeroValue31,
  a23 := Try.isAgg22,
  z23 := Try.sizeOf22 }
section
variable {α : Type} [Inhabited α]
theorem flat_one (enc : α → Value) (d : Array α) (i : Nat) (h : i < d.size) : (flatK (fun x => [enc x]) 1 d)[i]! = enc d[i]! := by
  rw [get_flatK _ _ _ _ (by omega), Nat.div_one, Nat.mod_one]
  rfl
theorem holds_one (enc : α → Value) (w : World) (blk off : Nat) (d : Array α) (h : HoldsK (fun x => [enc x]) 1 w blk off d) : Holds enc w blk off d := fun j hj => by
  have := h j (by rw [size_flatK]; omega)
  rw [flat_one enc d j hj] at this
  exact this
theorem putRow_one (enc : α → Value) (w : World) (blk off : Nat) (d : Array α) : putRow enc w blk off d = putRowK (fun x => [enc x]) 1 w blk off d := by
  unfold putRowK putRow
  refine mapBlock_congr w blk _ _ (fun c e fr _ => ?_)
  unfold putCells
  apply Array.ext_getElem?
  intro i
  rw [Array.getElem?_mapIdx, Array.getElem?_mapIdx, size_flatK, Nat.mul_one]
  cases c[i]? with
  | none => rfl
  | some x =>
    simp only [Option.map_some]
    by_cases hi : off ≤ i ∧ i < off + d.size
    · rw [if_pos hi, if_pos hi, flat_one enc d (i - off) (by omega)]
      rfl
    · rw [if_neg hi, if_neg hi]
end
def Compact_u32.f (l0 : List Int) : Option (List Int) := if l0.length ≤ 9223372036854775807 then some (Go.Lib.compactUpTo l0.toArray l0.length) else none
theorem compact_le (l : List Int) : (Go.Lib.compactUpTo l.toArray l.length).length ≤ l.length := by
  unfold Go.Lib.compactUpTo
  rw [List.length_map]
  exact Nat.le_trans (List.length_filter_le _ _) (by simp)
theorem Compact_u32.calls (P0_ : Nat → Prop) (u9000_ : Value) (l0 : List Int) (r : List Int) (w0 w : World) (hB : Below w0.heap.size w0 w) (ho0 : Kd.R (Kd.int .u32) 22 w w0.heap.size P0_ u9000_ l0) (h : Compact_u32.f l0 = some r) :
    Calls Try.prog 23 #[u9000_] w fun e w' => ∃ v0_ : Value, e = .returned (v0_) ∧ Kd.R (Kd.int .u32) 22 w' w0.heap.size (fun k_ => (P0_ k_ ∨ w.heap.size ≤ k_)) v0_ r ∧ Below w0.heap.size w0 w' ∧ Kept w w' (fun k_ => P0_ k_) := by
  unfold Compact_u32.f at h
  by_cases hsz : l0.length ≤ 9223372036854775807
  · rw [if_pos hsz] at h
    have hr := Option.some.inj h
    clear h
    rcases bridge_down (d := Kd.int .u32) (enc := fun x : Int => [.int .u32 x]) (fun h => h) (fun _ => rfl) (by decide) ho0 with ⟨rfl, rfl⟩ | ⟨g, cap, cur, rfl, hbase, hb, hnc, hcm, hcs, hok, hH⟩
    · have hrn : r = [] := by
        have := compact_le []
        rw [hr] at this
        exact List.length_eq_zero_iff.1 (by simpa using this)
      subst hrn
      clear hr hsz
      have HO := Go.Lib.hid ho0
      clear ho0
      go_enter Try.func23, Try.ntmps23
      go_wp2
      go_ret
      exact ⟨_, rfl, Kd.R_nil _ _ _ _ _, hB, Kept.refl _ _⟩
    · have hcon := AnyE.slices_Compact lay_Compact (Value.int .u32) (fun _ => rfl) (EqlAt.intD _ _ .u32) (NeqAt.intD _ _ .u32) 0 Try.zeroValue22 g 0 cap l0.toArray w (holds_one _ _ _ _ _ hH) (by simpa using hsz) (by simpa using hnc)
      refine (show Calls Try.prog 23 _ _ _ from hcon).mono ?_
      rintro e w' ⟨rfl, q, rfl⟩
      have hcl := compact_le l0
      have hcu : Go.Lib.compactUpTo l0.toArray l0.toArray.size = r := by rw [← hr]; simp
      rw [hcu]
      rw [hr] at hcl
      have hyl : (r ++ List.replicate (l0.toArray.size - r.length) (0 : Int)).length = l0.length := by simp; omega
      have hup := bridge_up (d := Kd.int .u32) (enc := fun x : Int => [.int .u32 x]) (ys := r ++ List.replicate (l0.toArray.size - r.length) (0 : Int)) (fun _ _ _ _ => rfl) (fun _ => rfl) (by decide) hB hbase hb hyl hnc hcm hcs hok q #[]
      rw [grow_empty, show (Kd.int .u32).sz = 1 from rfl, ← putRow_one] at hup
      refine ⟨_, rfl, ?_, hup.2⟩
      have := Kd.R_take (m := r.length) hup.1 (by simp)
      rw [List.take_left] at this
      exact this
  · rw [if_neg hsz] at h
    exact absurd h (by simp)
end Go.Proofs.Ytdkbfcogmlghfaa.P

namespace Go.Proofs.Ytdkbfcogmlghfaa.P
open Go.RowKit Go.Proofs.YtdkbfcogmlghfaaW.PrintWords Go.Proofs.YtdkbfcogmlghfaaW.PrintLast Go.Proofs.YtdkbfcogmlghfaaW.PrintMore Go.Sort Go.Shelf Go.Lib
set_option linter.unusedVariables false
set_option linter.unusedSimpArgs false
/-! slices.Clone of a row of the call's own. -/
def lay_Clone_ren : Go.Shelf.Ren := ⟨fun | 41 => 24 | n => n, fun | 22 => 31 | 23 => 22 | 4 => 4 | n => n, fun n => n⟩
theorem lay_Clone : SlLaysE0.n41 Try.prog lay_Clone_ren := {
  mixed := by kernel_rfl,
  f41 := ⟨Try.f24.name, by decide, Try.func24.trans (congrArg some (by kernel_rfl))⟩,
  t4 := Try.underlying4,
  a4 := Try.isAgg4,
  z4 := Try.sizeOf4,
  v4 := Try.zeroValue4,
  t22 := Try.underlying31,
  a22 := Try.isAgg31,
  z22 := Try.sizeOf31,
  v22 := Try.zeroValue31 }
def Clone_u32.f (l0 : List Int) : Option (List Int) := if l0.length ≤ 35184372088832 then some l0 else none
theorem Clone_u32.calls (P0_ : Nat → Prop) (u9000_ : Value) (l0 : List Int) (r : List Int) (w0 w : World) (ho0 : Kd.R (Kd.int .u32) 22 w w0.heap.size P0_ u9000_ l0) (h : Clone_u32.f l0 = some r) :
    Calls Try.prog 24 #[u9000_] w fun e w' => ∃ v0_ : Value, e = .returned v0_ ∧ Kd.R (Kd.int .u32) 22 w' w.heap.size (fun _ => True) v0_ r ∧ Below w.heap.size w w' := by
  unfold Clone_u32.f at h
  by_cases hl : l0.length ≤ 35184372088832
  · rw [if_pos hl] at h
    have hr := Option.some.inj h
    subst hr
    clear h
    have hrd := (Kd.R_slice ho0)
    rcases bridge_down (d := Kd.int .u32) (enc := fun x : Int => [.int .u32 x]) (fun h => h) (fun _ => rfl) (by decide) ho0 with ⟨rfl, rfl⟩ | ⟨g, cap, cur, rfl, hbase, hb, hnc, hcm, hcs, hok, hH⟩
    · refine (show Calls Try.prog 24 _ _ _ from AnyE.slices_Clone_nil lay_Clone 0 0 w).mono ?_
      rintro e w' ⟨rfl, rfl⟩
      exact ⟨_, rfl, Kd.R_nil _ _ _ _ _, Below.refl _ _⟩
    · obtain ⟨i0, hi, hz0, hz1, hz2⟩ := info_parts (show (Try.prog.info? 22).map (fun i => (i.zero, i.size, i.bytes)) = some (some (.int .u32 0), 1, 4) by kernel_rfl)
      have hO := holds_one _ _ _ _ _ hH
      have hcon := AnyE.slices_Clone lay_Clone i0 (.int .u32 0) 1 4 hi hz0 hz1 hz2 rfl (by decide) Try.sizeOf22 g 0 l0.length cap (encs (Value.int .u32) l0) w (by rw [encs_length, Nat.mul_one]) (Nat.le_trans hnc hcm) (by omega) (fun j u hj => by
        obtain ⟨hjl, rfl⟩ := List.getElem?_eq_some_iff.1 hj
        rw [encs_length] at hjl
        have := (hO j (by simpa using hjl)).1
        rw [this]
        simp [encs, hjl]) (fun u hu => by
        simp only [encs, List.mem_map] at hu
        obtain ⟨x, _, rfl⟩ := hu
        rfl)
      refine (show Calls Try.prog 24 _ _ _ from hcon).mono ?_
      rintro e w' ⟨v', rfl, hown, _, hbl⟩
      exact ⟨v', rfl, Kd.R_of_own hown (fun _ _ => trivial), hbl⟩
  · rw [if_neg hl] at h
    exact absurd h (by simp)
end Go.Proofs.Ytdkbfcogmlghfaa.P

namespace Go.Proofs.Ytdkbfcogmlghfaa.P
open Go.RowKit Go.Sort Go.Shelf Go.Lib
set_option linter.unusedVariables false
set_option linter.unusedSimpArgs false
/-! Go's own sort at uint32: words of every walk. -/
theorem nan_u32 (x : Int) (w : World) : Calls Try.prog 50 #[.int .u32 x] w fun e w' => e = .returned (.bool false) ∧ w' = w := by
  go_enter Try.func50, Try.ntmps50
  go_wp2
  go_ret
  exact ⟨by simp, rfl⟩
theorem less_u32 (x y : Int) (w : World) : Calls Try.prog 40 #[.int .u32 x, .int .u32 y] w fun e w' => e = .returned (.bool (ltInt x y)) ∧ w' = w := by
  go_enter Try.func40, Try.ntmps40
  go_wp2_with (go_at_call 50; refine (nan_u32 _ _).mono ?_; rintro e w' ⟨rfl, rfl⟩)
  go_ret
  exact ⟨rfl, rfl⟩
/-- A row of a world of the sort's, its places under one name. -/
theorem row_facts {w0 W : World} {blk off : Nat} {d0 dk : Array Int} (S : SW (.int .u32) w0 blk off dk W) (R : Row1 (.int .u32) w0 blk off d0) (hs : dk.size = d0.size) :
    ∃ G : Nat → Int, Hid (∀ t, G t = dk[t]!) ∧ (∀ t, t < d0.size → W.cell? ⟨blk, off + t, none⟩ = some (.int .u32 (G t))) ∧ ∀ t, t < d0.size → W.frozen? ⟨blk, off + t, none⟩ = false :=
  ⟨fun t => dk[t]!, fun _ => rfl, fun t ht => S.c1 R hs t (by omega), fun t ht => S.f1 R hs t (by omega)⟩
theorem row_u32 {w : World} {blk off : Nat} {d : Array Int} (h : Holds (.int .u32) w blk off d) (hb : blk < w.heap.size) : Row1 (.int .u32) w blk off d := ⟨fun _ => rfl, h, hb⟩
end Go.Proofs.Ytdkbfcogmlghfaa.P

namespace Go.Proofs.Ytdkbfcogmlghfaa.P
open Go.RowKit Go.Sort Go.Shelf Go.Lib
set_option linter.unusedVariables false
set_option linter.unusedSimpArgs false
set_option maxHeartbeats 4000000 in
set_option maxRecDepth 100000 in
theorem reverse_u32 (blk off cap a b : Nat) (d0 d : Array Int) (w0 w : World) (R : Row1 (.int .u32) w0 blk off d0) (hs : d.size = d0.size) (S : SW (.int .u32) w0 blk off d w) (hab : a < b) (hb : b ≤ d0.size) (hsz : d0.size < 4611686018427387904) :
    Calls Try.prog 38 #[.slice (some ⟨blk, off, none⟩) d0.size cap, .int .i64 a, .int .i64 b] w fun e w' => e = .returned (.tuple #[]) ∧ SW (.int .u32) w0 blk off (reverseRange d a b) w' := by
  have S0 : Hid (SW (.int .u32) w0 blk off d w) := S
  clear S
  go_enter Try.func38, Try.ntmps38
  go_wp2
  go_loopw [6, 7] (fun vi vj wr => ∃ (i j : Nat) (dk : Array Int), vi = .int .i64 i ∧ vj = .int .i64 j ∧ i ≤ j + 1 ∧ j < b ∧ dk.size = d0.size ∧ Hid (SW (.int .u32) w0 blk off dk wr) ∧ Hid (reverseLoop i j dk = reverseLoop a (b - 1) d))
    (fun vi vj _ => (intOf vj).toNat + 1 - (intOf vi).toNat)
  case atStart => exact ⟨a, b - 1, d, rfl, by congr 1; omega, by omega, by omega, hs, S0, rfl⟩
  case round =>
    clear S0 hs
    obtain ⟨i, j, dk, rfl, rfl, hij, hjb, hds, S1, H⟩ := hrel
    by_cases hlt : i < j
    · obtain ⟨G, hG, hc, hf⟩ := row_facts S1.out R hds
      obtain ⟨u, hu⟩ := S1.out.c2 R hds i j (by omega) (by omega) (.int .u32 (G j))
      go_wp2_with fail
      go_region
      all_goals go_wp2
      go_roundw
      case rel =>
        refine ⟨i + 1, j - 1, swp dk i j, by go_num, by go_num, by omega, by omega, by rw [size_swp]; exact hds, ?_, ?_⟩
        · have := S1.out.swapped R i j (by omega) (by omega)
          rw [← hG.out i, ← hG.out j] at this
          exact this
        · have := H.out
          rw [reverseLoop, if_pos hlt] at this
          exact this
      case measure => simp [intOf]; omega
    · go_wp2
      go_end0
      refine ⟨rfl, ?_⟩
      have := H.out
      rw [reverseLoop, if_neg hlt] at this
      rw [reverseRange, ← this]
      exact S1.out
end Go.Proofs.Ytdkbfcogmlghfaa.P

namespace Go.Proofs.Ytdkbfcogmlghfaa.P
open Go.RowKit Go.Sort Go.Shelf Go.Lib
set_option linter.unusedVariables false
set_option linter.unusedSimpArgs false
theorem insInner_end (a j : Nat) (d : Array Int) (h : ¬ a < j ∨ ltInt d[j]! d[j - 1]! = false) : insInner ltInt a j d = d := by
  cases j with
  | zero => rfl
  | succ k =>
    rw [insInner, if_neg]
    rcases h with h | h
    · simp; omega
    · simp only [Nat.add_sub_cancel] at h; simp [h]
set_option maxHeartbeats 4000000 in
set_option maxRecDepth 100000 in
theorem insertion_u32 (blk off cap a b : Nat) (d0 d : Array Int) (w0 w : World) (R : Row1 (.int .u32) w0 blk off d0) (hs : d.size = d0.size) (S : SW (.int .u32) w0 blk off d w) (hb : b ≤ d0.size) (hsz : d0.size < 4611686018427387904) (ha : a < 4611686018427387904) :
    Calls Try.prog 34 #[.slice (some ⟨blk, off, none⟩) d0.size cap, .int .i64 a, .int .i64 b] w fun e w' => e = .returned (.tuple #[]) ∧ SW (.int .u32) w0 blk off (insertionSort ltInt d a b) w' := by
  have S0 : Hid (SW (.int .u32) w0 blk off d w) := S
  clear S
  go_enter Try.func34, Try.ntmps34
  go_wp2
  go_loopw [6, 7] (fun vi v7 wr => ∃ (i : Nat) (dk : Array Int), vi = .int .i64 i ∧ a + 1 ≤ i ∧ (i ≤ a + 1 ∨ i ≤ b) ∧ dk.size = d0.size ∧ Hid (SW (.int .u32) w0 blk off dk wr) ∧ Hid (insOuter ltInt a b i dk = insOuter ltInt a b (a + 1) d))
    (fun vi v7 _ => b - (intOf vi).toNat)
  case atStart => exact ⟨a + 1, d, by go_num, Nat.le_refl _, .inl (Nat.le_refl _), hs, S0, rfl⟩
  case round =>
    clear S0 hs
    obtain ⟨i, dk, rfl, hai, hia, hds, S1, H⟩ := hrel
    by_cases hib : i < b
    · go_wp2
      go_loopw [7] (fun vj wr => ∃ (j : Nat) (dj : Array Int), vj = .int .i64 j ∧ a ≤ j ∧ j ≤ i ∧ dj.size = d0.size ∧ Hid (SW (.int .u32) w0 blk off dj wr) ∧ Hid (insInner ltInt a j dj = insInner ltInt a i dk))
        (fun vj _ => (intOf vj).toNat)
      case atStart => exact ⟨i, dk, rfl, by omega, Nat.le_refl _, hds, S1, rfl⟩
      case round =>
        clear S1 hds
        obtain ⟨j, dj, rfl, haj, hji, hdj, S2, H2⟩ := hrel
        obtain ⟨G, hG, hc, hf⟩ := row_facts S2.out R hdj
        by_cases hja : a < j
        · obtain ⟨k, hk⟩ : ∃ k, j = k + 1 := ⟨j - 1, by omega⟩
          obtain ⟨u, hu⟩ := S2.out.c2 R hdj j k (by omega) (by omega) (.int .u32 (G k))
          have ez : (j : Int) - 1 = (k : Int) := by omega
          have hkl : k < d0.size := by omega
          have hjl : j < d0.size := by omega
          have HK : Hid (j = k + 1) := hk
          clear hk
          go_wp2_with fail
          go_big_quiet (first | (go_at_call 40; refine Calls.quiet_of_same (less_u32 _ _ _)))
          go_wp2
          · have ht : ltInt (G j) (G k) = true := by assumption
            go_region
            all_goals go_wp2
            go_roundw
            case rel =>
              have hk := HK.out
              refine ⟨k, swp dj j k, rfl, by omega, by omega, by rw [size_swp]; exact hdj, ?_, ?_⟩
              · have := (S2.out.drewN nq).swapped R j k (by omega) (by omega)
                rw [← hG.out j, ← hG.out k] at this
                exact this
              · rw [← H2.out]
                rw [hG.out j, hG.out k, hk] at ht
                rw [hk, insInner, if_pos (by rw [ht]; simp; omega)]
                exact rfl
            case measure => have hk := HK.out; simp [intOf]; omega
          · have ht : ltInt (G j) (G k) = false := by assumption
            have e := insInner_end a j dj (.inr (by rw [show j - 1 = k from by have := HK.out; omega, ← hG.out j, ← hG.out k]; exact ht))
            go_roundw
            case rel =>
              refine ⟨i + 1, dj, by go_num, by omega, .inr (by omega), hdj, S2.out.drewN nq, ?_⟩
              have h := H.out
              rw [insOuter, if_pos hib, ← H2.out, e] at h
              exact h
            case measure => simp [intOf]; omega
        · have e := insInner_end a j dj (.inl hja)
          go_wp2_with fail
          go_big_quiet (fail)
          go_wp2
          go_roundw
          case rel =>
            refine ⟨i + 1, dj, by go_num, by omega, .inr (by omega), hdj, S2.out.drewN nq, ?_⟩
            have h := H.out
            rw [insOuter, if_pos hib, ← H2.out, e] at h
            exact h
          case measure => simp [intOf]; omega
    · go_wp2
      go_end0
      refine ⟨rfl, ?_⟩
      have h := H.out
      rw [insOuter, if_neg hib] at h
      rw [insertionSort, ← h]
      exact S1.out
end Go.Proofs.Ytdkbfcogmlghfaa.P

namespace Go.Proofs.Ytdkbfcogmlghfaa.P
open Go.RowKit Go.Sort Go.Shelf Go.Lib
set_option linter.unusedVariables false
set_option linter.unusedSimpArgs false
theorem sift_stop (hi F root : Nat) (d : Array Int) (h : hi ≤ 2 * root + 1) : siftDown ltInt hi F root d = d := by rw [siftDown, dif_pos h]
theorem sift_left (hi F root : Nat) (d : Array Int) (h : 2 * root + 1 < hi) (hc : ¬ 2 * root + 1 + 1 < hi ∨ ltInt d[F + (2 * root + 1)]! d[F + (2 * root + 1) + 1]! = false) :
    siftDown ltInt hi F root d = if ltInt d[F + root]! d[F + (2 * root + 1)]! = false then d else siftDown ltInt hi F (2 * root + 1) (swp d (F + root) (F + (2 * root + 1))) := by
  rw [siftDown, dif_neg (by omega), if_neg (by rcases hc with hc | hc <;> simp [hc])]
  cases ltInt d[F + root]! d[F + (2 * root + 1)]! <;> rfl
theorem sift_right (hi F root : Nat) (d : Array Int) (h : 2 * root + 1 + 1 < hi) (hc : ltInt d[F + (2 * root + 1)]! d[F + (2 * root + 1) + 1]! = true) :
    siftDown ltInt hi F root d = if ltInt d[F + root]! d[F + (2 * root + 2)]! = false then d else siftDown ltInt hi F (2 * root + 2) (swp d (F + root) (F + (2 * root + 2))) := by
  rw [siftDown, dif_neg (by omega), if_pos (by simp [hc, h]), dif_pos (by omega)]
  cases ltInt d[F + root]! d[F + (2 * root + 2)]! <;> rfl
set_option maxHeartbeats 8000000 in
set_option maxRecDepth 100000 in
theorem sift_u32 (blk off cap lo hi F : Nat) (d0 d : Array Int) (w0 w : World) (R : Row1 (.int .u32) w0 blk off d0) (hs : d.size = d0.size) (S : SW (.int .u32) w0 blk off d w) (hF : F + hi ≤ d0.size) (hlo : lo ≤ d0.size) (hsz : d0.size < 4611686018427387904) :
    Calls Try.prog 45 #[.slice (some ⟨blk, off, none⟩) d0.size cap, .int .i64 lo, .int .i64 hi, .int .i64 F] w fun e w' => e = .returned (.tuple #[]) ∧ SW (.int .u32) w0 blk off (siftDown ltInt hi F lo d) w' := by
  have S0 : Hid (SW (.int .u32) w0 blk off d w) := S
  clear S
  go_enter Try.func45, Try.ntmps45
  go_wp2
  go_loopw [8, 9] (fun vi v9 wr => ∃ (root : Nat) (dk : Array Int), vi = .int .i64 root ∧ root ≤ d0.size ∧ dk.size = d0.size ∧ Hid (SW (.int .u32) w0 blk off dk wr) ∧ Hid (siftDown ltInt hi F root dk = siftDown ltInt hi F lo d))
    (fun vi v9 _ => hi - (intOf vi).toNat)
  case atStart => exact ⟨lo, d, rfl, hlo, hs, S0, rfl⟩
  case round =>
    clear S0 hs
    obtain ⟨root, dk, rfl, hrl0, hds, S1, H⟩ := hrel
    obtain ⟨c, hc0⟩ : ∃ c, c = 2 * root + 1 := ⟨_, rfl⟩
    have ez : 2 * (root : Int) + 1 = (c : Int) := by omega
    have HC : Hid (c = 2 * root + 1) := hc0
    by_cases h1 : c < hi
    · obtain ⟨G, hG, hc, hf⟩ := row_facts S1.out R hds
      obtain ⟨p, hp⟩ : ∃ p, p = F + c := ⟨_, rfl⟩
      obtain ⟨q, hq⟩ : ∃ q, q = p + 1 := ⟨_, rfl⟩
      have ep : (F : Int) + (c : Int) = (p : Int) := by omega
      have eq1 : (p : Int) + 1 = (q : Int) := by omega
      have hpl : p < d0.size := by omega
      obtain ⟨c2, hc2⟩ : ∃ c2, c2 = c + 1 := ⟨_, rfl⟩
      have ez2 : (c : Int) + 1 = (c2 : Int) := by omega
      have HP : Hid (p = F + c) := hp
      have HQ : Hid (q = p + 1) := hq
      have HC2 : Hid (c2 = c + 1) := hc2
      by_cases h2 : c2 < hi
      · have hql : q < d0.size := by omega
        clear hc0 hp hq hc2
        go_wp2_with fail
        go_big_quiet (first | (go_at_call 40; refine Calls.quiet_of_same (less_u32 _ _ _)))
        go_wp2
        · have ht : ltInt (G p) (G q) = true := by assumption
          have Hch : Hid (c2 = 2 * root + 2 ∧ F + c2 < d0.size + 0 ∧ root < c2 ∧ c2 < hi) := by have := HC.out; have := HC2.out; exact ⟨by omega, by omega, by omega, h2⟩
          have Hst : Hid (siftDown ltInt hi F root dk = if ltInt dk[F + root]! dk[F + c2]! = false then dk else siftDown ltInt hi F c2 (swp dk (F + root) (F + c2))) := by
            have a1 := HC.out; have a2 := HC2.out; have a3 := HP.out; have a4 := HQ.out
            rw [hG.out p, hG.out q, a4, a3, a1] at ht
            rw [a2, a1]
            exact sift_right hi F root dk (by omega) ht
          have hb1 : F + c2 < d0.size ∧ root < c2 := ⟨by have := Hch.out; omega, Hch.out.2.2.1⟩
          have hb2 := hb1.1
          have hb3 := hb1.2
          clear hb1 ht
          have S2 : Hid (SW (.int .u32) w0 blk off dk (wr.drewN nq)) := S1.out.drewN nq
          clear hc hf hG S1 ep eq1
          generalize wr.drewN nq = w2 at S2 ⊢
          obtain ⟨G2, hG2, hc2, hf2⟩ := row_facts S2.out R hds
          obtain ⟨rp, hrp⟩ : ∃ rp, rp = F + root := ⟨_, rfl⟩
          obtain ⟨cp, hcp⟩ : ∃ cp, cp = F + c2 := ⟨_, rfl⟩
          have er : (F : Int) + (root : Int) = (rp : Int) := by omega
          have ec : (F : Int) + (c2 : Int) = (cp : Int) := by omega
          have hrl : rp < d0.size := by omega
          have hcl : cp < d0.size := by omega
          have hrc : rp ≠ cp := by omega
          have HRP : Hid (rp = F + root) := hrp
          have HCP : Hid (cp = F + c2) := hcp
          clear hrp hcp
          obtain ⟨u, hu⟩ := S2.out.c2 R hds rp cp (by omega) (by omega) (.int .u32 (G2 cp))
          go_wp2_with fail
          go_big_quiet (first | (go_at_call 40; refine Calls.quiet_of_same (less_u32 _ _ _)))
          go_wp2
          · have ht : ltInt (G2 rp) (G2 cp) = false := by simp_all
            refine bodyPost_ret (results_none rfl _ _ _) rfl ?_
            refine ⟨rfl, ?_⟩
            have e := Hst.out
            rw [← HRP.out, ← HCP.out, ← hG2.out rp, ← hG2.out cp, ht, if_pos rfl] at e
            rw [← H.out, e]
            exact S2.out.drewN nq
          · have ht : ltInt (G2 rp) (G2 cp) = true := by simp_all
            go_region
            all_goals go_wp2
            go_roundw
            case rel =>
              have h3 := Hch.out
              refine ⟨c2, swp dk rp cp, rfl, by omega, by rw [size_swp]; exact hds, ?_, ?_⟩
              · have := (S2.out.drewN nq).swapped R rp cp (by omega) (by omega)
                rw [← hG2.out rp, ← hG2.out cp] at this
                exact this
              · have e := Hst.out
                rw [← HRP.out, ← HCP.out, ← hG2.out rp, ← hG2.out cp, ht, if_neg (by simp)] at e
                rw [← H.out, e]
                exact rfl
            case measure => have h3 := Hch.out; simp [intOf]; omega
        · have ht : ltInt (G p) (G q) = false := by assumption
          have Hch : Hid (c = 2 * root + 1 ∧ F + c < d0.size + 0 ∧ root < c ∧ c < hi) := by have := HC.out; exact ⟨by omega, by omega, by omega, h1⟩
          have Hst : Hid (siftDown ltInt hi F root dk = if ltInt dk[F + root]! dk[F + c]! = false then dk else siftDown ltInt hi F c (swp dk (F + root) (F + c))) := by
            have a1 := HC.out; have a2 := HC2.out; have a3 := HP.out; have a4 := HQ.out
            rw [hG.out p, hG.out q, a4, a3, a1] at ht
            rw [a1]
            exact sift_left hi F root dk (by omega) (.inr ht)
          have hb1 : F + c < d0.size ∧ root < c := ⟨by have := Hch.out; omega, Hch.out.2.2.1⟩
          have hb2 := hb1.1
          have hb3 := hb1.2
          clear hb1 ht
          have S2 : Hid (SW (.int .u32) w0 blk off dk (wr.drewN nq)) := S1.out.drewN nq
          clear hc hf hG S1 ep eq1
          generalize wr.drewN nq = w2 at S2 ⊢
          obtain ⟨G2, hG2, hc2, hf2⟩ := row_facts S2.out R hds
          obtain ⟨rp, hrp⟩ : ∃ rp, rp = F + root := ⟨_, rfl⟩
          obtain ⟨cp, hcp⟩ : ∃ cp, cp = F + c := ⟨_, rfl⟩
          have er : (F : Int) + (root : Int) = (rp : Int) := by omega
          have ec : (F : Int) + (c : Int) = (cp : Int) := by omega
          have hrl : rp < d0.size := by omega
          have hcl : cp < d0.size := by omega
          have hrc : rp ≠ cp := by omega
          have HRP : Hid (rp = F + root) := hrp
          have HCP : Hid (cp = F + c) := hcp
          clear hrp hcp
          obtain ⟨u, hu⟩ := S2.out.c2 R hds rp cp (by omega) (by omega) (.int .u32 (G2 cp))
          go_wp2_with fail
          go_big_quiet (first | (go_at_call 40; refine Calls.quiet_of_same (less_u32 _ _ _)))
          go_wp2
          · have ht : ltInt (G2 rp) (G2 cp) = false := by simp_all
            refine bodyPost_ret (results_none rfl _ _ _) rfl ?_
            refine ⟨rfl, ?_⟩
            have e := Hst.out
            rw [← HRP.out, ← HCP.out, ← hG2.out rp, ← hG2.out cp, ht, if_pos rfl] at e
            rw [← H.out, e]
            exact S2.out.drewN nq
          · have ht : ltInt (G2 rp) (G2 cp) = true := by simp_all
            go_region
            all_goals go_wp2
            go_roundw
            case rel =>
              have h3 := Hch.out
              refine ⟨c, swp dk rp cp, rfl, by omega, by rw [size_swp]; exact hds, ?_, ?_⟩
              · have := (S2.out.drewN nq).swapped R rp cp (by omega) (by omega)
                rw [← hG2.out rp, ← hG2.out cp] at this
                exact this
              · have e := Hst.out
                rw [← HRP.out, ← HCP.out, ← hG2.out rp, ← hG2.out cp, ht, if_neg (by simp)] at e
                rw [← H.out, e]
                exact rfl
            case measure => have h3 := Hch.out; simp [intOf]; omega
      · clear hc0 hp hq hc2
        go_wp2_with fail
        go_big_quiet (fail)
        go_wp2
        have Hch : Hid (c = 2 * root + 1 ∧ F + c < d0.size + 0 ∧ root < c ∧ c < hi) := by have := HC.out; exact ⟨by omega, by omega, by omega, h1⟩
        have Hst : Hid (siftDown ltInt hi F root dk = if ltInt dk[F + root]! dk[F + c]! = false then dk else siftDown ltInt hi F c (swp dk (F + root) (F + c))) := by
          have a1 := HC.out; have a2 := HC2.out
          rw [a1]
          exact sift_left hi F root dk (by omega) (.inl (by omega))
        have hb1 : F + c < d0.size ∧ root < c := ⟨by have := Hch.out; omega, Hch.out.2.2.1⟩
        have hb2 := hb1.1
        have hb3 := hb1.2
        clear hb1
        have S2 : Hid (SW (.int .u32) w0 blk off dk (wr.drewN nq)) := S1.out.drewN nq
        clear hc hf hG S1 ep eq1
        generalize wr.drewN nq = w2 at S2 ⊢
        obtain ⟨G2, hG2, hc2, hf2⟩ := row_facts S2.out R hds
        obtain ⟨rp, hrp⟩ : ∃ rp, rp = F + root := ⟨_, rfl⟩
        obtain ⟨cp, hcp⟩ : ∃ cp, cp = F + c := ⟨_, rfl⟩
        have er : (F : Int) + (root : Int) = (rp : Int) := by omega
        have ec : (F : Int) + (c : Int) = (cp : Int) := by omega
        have hrl : rp < d0.size := by omega
        have hcl : cp < d0.size := by omega
        have hrc : rp ≠ cp := by omega
        have HRP : Hid (rp = F + root) := hrp
        have HCP : Hid (cp = F + c) := hcp
        clear hrp hcp
        obtain ⟨u, hu⟩ := S2.out.c2 R hds rp cp (by omega) (by omega) (.int .u32 (G2 cp))
        go_wp2_with fail
        go_big_quiet (first | (go_at_call 40; refine Calls.quiet_of_same (less_u32 _ _ _)))
        go_wp2
        · have ht : ltInt (G2 rp) (G2 cp) = false := by simp_all
          refine bodyPost_ret (results_none rfl _ _ _) rfl ?_
          refine ⟨rfl, ?_⟩
          have e := Hst.out
          rw [← HRP.out, ← HCP.out, ← hG2.out rp, ← hG2.out cp, ht, if_pos rfl] at e
          rw [← H.out, e]
          exact S2.out.drewN nq
        · have ht : ltInt (G2 rp) (G2 cp) = true := by simp_all
          go_region
          all_goals go_wp2
          go_roundw
          case rel =>
            have h3 := Hch.out
            refine ⟨c, swp dk rp cp, rfl, by omega, by rw [size_swp]; exact hds, ?_, ?_⟩
            · have := (S2.out.drewN nq).swapped R rp cp (by omega) (by omega)
              rw [← hG2.out rp, ← hG2.out cp] at this
              exact this
            · have e := Hst.out
              rw [← HRP.out, ← HCP.out, ← hG2.out rp, ← hG2.out cp, ht, if_neg (by simp)] at e
              rw [← H.out, e]
              exact rfl
          case measure => have h3 := Hch.out; simp [intOf]; omega
    · have e := sift_stop hi F root dk (by omega)
      clear hc0
      go_wp2
      go_end0
      refine ⟨rfl, ?_⟩
      rw [← H.out, e]
      exact S1.out
end Go.Proofs.Ytdkbfcogmlghfaa.P

namespace Go.Proofs.Ytdkbfcogmlghfaa.P
open Go.RowKit Go.Sort Go.Shelf Go.Lib
set_option linter.unusedVariables false
set_option linter.unusedSimpArgs false
theorem sift_size (hi F root : Nat) (d : Array Int) : (siftDown ltInt hi F root d).size = d.size := size_siftDown ltInt hi F _ root d (Nat.le_refl _)
set_option maxHeartbeats 8000000 in
set_option maxRecDepth 100000 in
theorem heap_u32 (blk off cap a b : Nat) (d0 d : Array Int) (w0 w : World) (R : Row1 (.int .u32) w0 blk off d0) (hs : d.size = d0.size) (S : SW (.int .u32) w0 blk off d w) (hab : a < b) (hb : b ≤ d0.size) (hsz : d0.size < 4611686018427387904) :
    Calls Try.prog 35 #[.slice (some ⟨blk, off, none⟩) d0.size cap, .int .i64 a, .int .i64 b] w fun e w' => e = .returned (.tuple #[]) ∧ SW (.int .u32) w0 blk off (heapSort ltInt d a b) w' := by
  have S0 : Hid (SW (.int .u32) w0 blk off d w) := S
  clear S
  obtain ⟨n, hn⟩ : ∃ n, n = b - a := ⟨_, rfl⟩
  have en : (b : Int) - (a : Int) = (n : Int) := by omega
  obtain ⟨m, hm⟩ : ∃ m : Nat, m = (n - 1) / 2 := ⟨_, rfl⟩
  have em : ((n : Int) - 1).tdiv 2 = (m : Int) := by rw [Int.tdiv_eq_ediv_of_nonneg (by omega)]; omega
  have hnb : a + n ≤ d0.size := by omega
  have hmn : m ≤ n := by omega
  have HN : Hid (heapSort ltInt d a b = heapPop ltInt a n (heapBuild ltInt n a (m + 1) d)) := by rw [hm, hn]; exact rfl
  have hnl : n < 4611686018427387904 := by omega
  clear hn hm
  go_enter Try.func35, Try.ntmps35
  go_wp2
  go_loopw [9] (fun vi wr => ∃ (k : Nat) (dk : Array Int), vi = .int .i64 ((k : Int) - 1) ∧ k ≤ m + 1 ∧ dk.size = d0.size ∧ Hid (SW (.int .u32) w0 blk off dk wr) ∧ Hid (heapBuild ltInt n a k dk = heapBuild ltInt n a (m + 1) d))
    (fun vi _ => (intOf vi + 1).toNat)
  case atStart => exact ⟨m + 1, d, by congr 1; omega, Nat.le_refl _, hs, S0, rfl⟩
  case round =>
    clear S0 hs
    obtain ⟨k, dk, rfl, hk, hds, S1, H⟩ := hrel
    cases k with
    | zero =>
      have e1 : dk = heapBuild ltInt n a (m + 1) d := H.out
      have HE : Hid (dk = heapBuild ltInt n a (m + 1) d) := e1
      clear e1 H hk
      go_wp2
      go_loopw [10] (fun vi wr => ∃ (k : Nat) (dj : Array Int), vi = .int .i64 ((k : Int) - 1) ∧ k ≤ n ∧ dj.size = d0.size ∧ Hid (SW (.int .u32) w0 blk off dj wr) ∧ Hid (heapPop ltInt a k dj = heapPop ltInt a n dk))
        (fun vi _ => (intOf vi + 1).toNat)
      case atStart => exact ⟨n, dk, rfl, Nat.le_refl _, hds, S1, rfl⟩
      case round =>
        clear S1 hds
        obtain ⟨k, dj, rfl, hk, hdj, S2, H2⟩ := hrel
        cases k with
        | zero =>
          go_wp2
          go_end0
          refine ⟨rfl, ?_⟩
          rw [HN.out, ← HE.out, ← H2.out]
          exact S2.out
        | succ i =>
          have ei : ((i + 1 : Nat) : Int) - 1 = (i : Int) := by omega
          rw [ei]
          obtain ⟨G, hG, hc, hf⟩ := row_facts S2.out R hdj
          obtain ⟨p, hp⟩ : ∃ p, p = a + i := ⟨_, rfl⟩
          have ep : (a : Int) + (i : Int) = (p : Int) := by omega
          have hpl : p < d0.size := by omega
          have hal : a < d0.size := by omega
          obtain ⟨u, hu⟩ := S2.out.c2 R hdj a p (by omega) (by omega) (.int .u32 (G p))
          have hin : i ≤ n := by omega
          have S3 : Hid (SW (.int .u32) w0 blk off (swp dj a p) ((wr.setCell ⟨blk, off + a, none⟩ (.int .u32 (G p))).setCell ⟨blk, off + p, none⟩ (.int .u32 (G a))).drew) := by
            have := S2.out.swapped R a p (by omega) (by omega)
            rw [← hG.out a, ← hG.out p] at this
            exact this
          have HP : Hid (p = a + i) := hp
          have hcall := sift_u32 blk off cap 0 i a d0 (swp dj a p) w0 ((wr.setCell ⟨blk, off + a, none⟩ (.int .u32 (G p))).setCell ⟨blk, off + p, none⟩ (.int .u32 (G a))).drew R (by rw [size_swp]; exact hdj) S3.out (by omega) (by omega) hsz
          have HCON := Hid.mk' hcall
          clear hcall
          by_cases hne : a = p
          · subst hne
            clear hp
            go_wp2_with fail
            go_region
            all_goals (go_wp2_with (first | (go_at_call 45; refine HCON.out.mono ?_; rintro e w1 ⟨rfl, h1⟩; have S4 := Hid.mk' h1; clear h1)))
            rotate_left
            go_roundw
            case rel =>
              repeat apply Exists.intro
              refine ⟨⟨i, siftDown ltInt i a 0 (swp dj a a), rfl, hin, by rw [sift_size, size_swp]; exact hdj, S4.out, ?_⟩, rfl⟩
              have h := H2.out
              rw [heapPop, ← HP.out] at h
              exact h
            case measure => simp [intOf]
            all_goals exact Value.bool false
          · clear hp
            go_wp2_with fail
            go_region
            all_goals (go_wp2_with (first | (go_at_call 45; refine HCON.out.mono ?_; rintro e w1 ⟨rfl, h1⟩; have S4 := Hid.mk' h1; clear h1)))
            go_roundw
            case rel =>
              repeat apply Exists.intro
              refine ⟨⟨i, siftDown ltInt i a 0 (swp dj a p), rfl, hin, by rw [sift_size, size_swp]; exact hdj, S4.out, ?_⟩, rfl⟩
              have h := H2.out
              rw [heapPop, ← HP.out] at h
              exact h
            case measure => simp [intOf]
    | succ k =>
      have ei : ((k + 1 : Nat) : Int) - 1 = (k : Int) := by omega
      rw [ei]
      have HCON := Hid.mk' (sift_u32 blk off cap k n a d0 dk w0 wr R hds S1.out (by omega) (by omega) hsz)
      go_wp2_with (first | (go_at_call 45; refine HCON.out.mono ?_; rintro e w1 ⟨rfl, h1⟩; have S4 := Hid.mk' h1; clear h1))
      go_roundw
      case rel => exact ⟨k, siftDown ltInt n a k dk, rfl, by omega, by rw [sift_size]; exact hds, S4.out, H.out⟩
      case measure => simp [intOf]
end Go.Proofs.Ytdkbfcogmlghfaa.P

namespace Go.Proofs.Ytdkbfcogmlghfaa.P
open Go.RowKit Go.Sort Go.Shelf Go.Lib
set_option linter.unusedVariables false
set_option linter.unusedSimpArgs false
set_option maxHeartbeats 16000000 in
set_option maxRecDepth 100000 in
theorem partition_u32 (blk off cap a b pivot : Nat) (d0 d : Array Int) (w0 w : World) (R : Row1 (.int .u32) w0 blk off d0) (hs : d.size = d0.size) (S : SW (.int .u32) w0 blk off d w) (hap : a ≤ pivot) (hpb : pivot < b) (hb : b ≤ d0.size) (hsz : d0.size < 4611686018427387904) :
    Calls Try.prog 42 #[.slice (some ⟨blk, off, none⟩) d0.size cap, .int .i64 a, .int .i64 b, .int .i64 pivot] w fun e w' =>
      e = .returned (.tuple #[.int .i64 (Sort.partition ltInt d a b pivot).1, .bool (Sort.partition ltInt d a b pivot).2.1]) ∧ SW (.int .u32) w0 blk off (Sort.partition ltInt d a b pivot).2.2 w' := by
  have hal : a < d0.size := by omega
  have hpl0 : pivot < d0.size := by omega
  obtain ⟨G, hG, hc, hf⟩ := row_facts S R hs
  obtain ⟨u, hu⟩ := S.c2 R hs a pivot (by omega) (by omega) (.int .u32 (G pivot))
  have S0 : Hid (SW (.int .u32) w0 blk off (swp d a pivot) ((w.setCell ⟨blk, off + a, none⟩ (.int .u32 (G pivot))).setCell ⟨blk, off + pivot, none⟩ (.int .u32 (G a))).drew) := by
    have := S.swapped R a pivot (by omega) (by omega)
    rw [← hG.out a, ← hG.out pivot] at this
    exact this
  clear S
  go_enter Try.func42, Try.ntmps42
  go_wp2
  go_region
  all_goals go_wp2
  clear hc hf hu
  generalize ((w.setCell ⟨blk, off + a, none⟩ (.int .u32 (G pivot))).setCell ⟨blk, off + pivot, none⟩ (.int .u32 (G a))).drew = w1 at S0 ⊢
  clear hG
  obtain ⟨i, hi⟩ : ∃ i : Nat, i = a + 1 := ⟨_, rfl⟩
  obtain ⟨j, hj⟩ : ∃ j : Nat, j = b - 1 := ⟨_, rfl⟩
  obtain ⟨dk, hdk⟩ : ∃ dk : Array Int, dk = swp d a pivot := ⟨_, rfl⟩
  have S1 : Hid (SW (.int .u32) w0 blk off dk w1) := by rw [hdk]; exact S0.out
  clear S0
  have hds : dk.size = d0.size := by rw [hdk, size_swp]; exact hs
  have e1 : ((a : Int) + 1) = (i : Int) := by omega
  have e2 : ((b : Int) - 1) = (j : Int) := by omega
  rw [e1, e2]
  clear e1 e2
  have hai : a < i := by omega
  have hij : i ≤ j + 1 := by omega
  have hjb : j < b := by omega
  have Hi : Hid (i = a + 1) := hi
  have Hj : Hid (j = b - 1) := hj
  have Hdk : Hid (dk = swp d a pivot) := hdk
  clear hi hj hdk hs
  go_loopw [10] (fun vi wr => ∃ p : Nat, vi = .int .i64 p ∧ i ≤ p ∧ p ≤ j + 1 ∧ Hid (SW (.int .u32) w0 blk off dk wr) ∧ Hid (scanUp (fun x => ltInt x dk[a]!) dk j p = scanUp (fun x => ltInt x dk[a]!) dk j i))
    (fun vi _ => j + 1 - (intOf vi).toNat)
  case atStart => exact ⟨i, rfl, Nat.le_refl _, hij, S1, rfl⟩
  case round =>
    clear S1
    obtain ⟨p, rfl, hip, hpj, S2, HU⟩ := hrel
    by_cases hle : p ≤ j
    · obtain ⟨G, hG, hc, hf⟩ := row_facts S2.out R hds
      have hpl : p < d0.size := by omega
      go_wp2_with fail
      go_big_quiet (first | (go_at_call 40; refine Calls.quiet_of_same (less_u32 _ _ _)))
      go_wp2
      · have ht : ltInt (G p) (G a) = true := by assumption
        go_roundw
        case rel => exact ⟨p + 1, by go_num, by omega, by omega, S2.out.drewN nq, (scanUp_go (fun x => ltInt x dk[a]!) dk j p hle (by rw [← hG.out a, ← hG.out p]; exact ht)).symm.trans HU.out⟩
        case measure => simp [intOf]; omega
      · have ht : ltInt (G p) (G a) = false := by assumption
        have HI2 : Hid (p = scanUp (fun x => ltInt x dk[a]!) dk j i) := (scanUp_end (fun x => ltInt x dk[a]!) dk j p (.inr (by rw [← hG.out a, ← hG.out p]; exact ht))).symm.trans HU.out
        have S3 : Hid (SW (.int .u32) w0 blk off dk (wr.drewN nq)) := S2.out.drewN nq
        clear hc hf hG S2 HU ht
        go_loopw [11] (fun vj wr => ∃ q : Nat, vj = .int .i64 q ∧ q ≤ j ∧ p ≤ q + 1 ∧ Hid (SW (.int .u32) w0 blk off dk wr) ∧ Hid (scanDown (fun x => !ltInt x dk[a]!) dk p q = scanDown (fun x => !ltInt x dk[a]!) dk p j))
          (fun vj _ => (intOf vj).toNat)
        case atStart => exact ⟨j, rfl, Nat.le_refl _, hpj, S3, rfl⟩
        case round =>
          clear S3
          obtain ⟨q, rfl, hqj, hpq, S4, HD⟩ := hrel
          by_cases hle2 : p ≤ q
          · obtain ⟨G, hG, hc, hf⟩ := row_facts S4.out R hds
            have hql : q < d0.size := by omega
            go_wp2_with fail
            go_big_quiet (first | (go_at_call 40; refine Calls.quiet_of_same (less_u32 _ _ _)))
            go_wp2
            · have ht : (!ltInt (G q) (G a)) = true := by assumption
              go_roundw
              case rel => exact ⟨q - 1, by go_num, by omega, by omega, S4.out.drewN nq, (scanDown_go (fun x => !ltInt x dk[a]!) dk p q hle2 (by omega) (by rw [← hG.out a, ← hG.out q]; exact ht)).symm.trans HD.out⟩
              case measure => simp [intOf]; omega
            · have ht : (!ltInt (G q) (G a)) = false := by assumption
              have HJ2 : Hid (q = scanDown (fun x => !ltInt x dk[a]!) dk p j) := (scanDown_end (fun x => !ltInt x dk[a]!) dk p q (.inr (by rw [← hG.out a, ← hG.out q]; exact ht))).symm.trans HD.out
              have S5 : Hid (SW (.int .u32) w0 blk off dk (wr.drewN nq)) := S4.out.drewN nq
              clear hc hf hG S4 HD ht
              generalize wr.drewN nq = w5 at S5 ⊢
              have hlt := part_scans_lt ltInt a i j dk (by omega) HI2.out HJ2.out hle2
              obtain ⟨G, hG, hc, hf⟩ := row_facts S5.out R hds
              have hpl : p < d0.size := by omega
              have hql : q < d0.size := by omega
              obtain ⟨u, hu⟩ := S5.out.c2 R hds p q (by omega) (by omega) (.int .u32 (G q))
              have S6 : Hid (SW (.int .u32) w0 blk off (swp dk p q) ((w5.setCell ⟨blk, off + p, none⟩ (.int .u32 (G q))).setCell ⟨blk, off + q, none⟩ (.int .u32 (G p))).drew) := by
                have := S5.out.swapped R p q (by omega) (by omega)
                rw [← hG.out p, ← hG.out q] at this
                exact this
              clear S5
              go_wp2
              go_region
              all_goals go_wp2
              obtain ⟨Rr, hR⟩ : ∃ Rr, Rr = partLoop ltInt a (p + 1) (q - 1) (swp dk p q) := ⟨_, rfl⟩
              have HP : Hid (Sort.partition ltInt d a b pivot = (Rr.1, false, swp Rr.2 Rr.1 a)) := by rw [hR]; exact part_first_go ltInt d a b pivot Hi.out Hj.out Hdk.out HI2.out HJ2.out (by omega)
              have HR : Hid (Rr = partLoop ltInt a (p + 1) (q - 1) (swp dk p q)) := hR
              clear hR hc hf hG hu HI2 HJ2
              go_loopw [10, 11] (fun vi vj wr => ∃ (i j : Nat) (dk : Array Int), vi = .int .i64 i ∧ vj = .int .i64 j ∧ a < i ∧ i ≤ j + 1 ∧ j < b ∧ dk.size = d0.size ∧ Hid (SW (.int .u32) w0 blk off dk wr) ∧ Hid (partLoop ltInt a i j dk = Rr))
                (fun vi vj _ => (intOf vj).toNat + 1 - (intOf vi).toNat)
              case atStart => exact ⟨p + 1, q - 1, swp dk p q, by go_num, by go_num, by omega, by omega, by omega, by rw [size_swp]; exact hds, S6, HR.out.symm⟩
              case round =>
                clear S6 HR
                clear hai hij hjb hip hpj hle hle2 hlt hqj hpq hpl hql hds Hi Hj Hdk
                obtain ⟨i1, j1, dk1, rfl, rfl, hai, hij, hjb, hds, S1, HL⟩ := hrel
                go_wp2
                go_loopw [10] (fun vi wr => ∃ p1 : Nat, vi = .int .i64 p1 ∧ i1 ≤ p1 ∧ p1 ≤ j1 + 1 ∧ Hid (SW (.int .u32) w0 blk off dk1 wr) ∧ Hid (scanUp (fun x => ltInt x dk1[a]!) dk1 j1 p1 = scanUp (fun x => ltInt x dk1[a]!) dk1 j1 i1))
                  (fun vi _ => j1 + 1 - (intOf vi).toNat)
                case atStart => exact ⟨i1, rfl, Nat.le_refl _, hij, S1, rfl⟩
                case round =>
                  clear S1
                  obtain ⟨p1, rfl, hip, hpj, S2, HU⟩ := hrel
                  by_cases hle : p1 ≤ j1
                  · obtain ⟨G, hG, hc, hf⟩ := row_facts S2.out R hds
                    have hpl : p1 < d0.size := by omega
                    go_wp2_with fail
                    go_big_quiet (first | (go_at_call 40; refine Calls.quiet_of_same (less_u32 _ _ _)))
                    go_wp2
                    · have ht : ltInt (G p1) (G a) = true := by assumption
                      go_roundw
                      case rel => exact ⟨p1 + 1, by go_num, by omega, by omega, S2.out.drewN nq, (scanUp_go (fun x => ltInt x dk1[a]!) dk1 j1 p1 hle (by rw [← hG.out a, ← hG.out p1]; exact ht)).symm.trans HU.out⟩
                      case measure => simp [intOf]; omega
                    · have ht : ltInt (G p1) (G a) = false := by assumption
                      have HI2 : Hid (p1 = scanUp (fun x => ltInt x dk1[a]!) dk1 j1 i1) := (scanUp_end (fun x => ltInt x dk1[a]!) dk1 j1 p1 (.inr (by rw [← hG.out a, ← hG.out p1]; exact ht))).symm.trans HU.out
                      have S3 : Hid (SW (.int .u32) w0 blk off dk1 (wr.drewN nq)) := S2.out.drewN nq
                      clear hc hf hG S2 HU ht
                      go_loopw [11] (fun vj wr => ∃ q1 : Nat, vj = .int .i64 q1 ∧ q1 ≤ j1 ∧ p1 ≤ q1 + 1 ∧ Hid (SW (.int .u32) w0 blk off dk1 wr) ∧ Hid (scanDown (fun x => !ltInt x dk1[a]!) dk1 p1 q1 = scanDown (fun x => !ltInt x dk1[a]!) dk1 p1 j1))
                        (fun vj _ => (intOf vj).toNat)
                      case atStart => exact ⟨j1, rfl, Nat.le_refl _, hpj, S3, rfl⟩
                      case round =>
                        clear S3
                        obtain ⟨q1, rfl, hqj, hpq, S4, HD⟩ := hrel
                        by_cases hle2 : p1 ≤ q1
                        · obtain ⟨G, hG, hc, hf⟩ := row_facts S4.out R hds
                          have hql : q1 < d0.size := by omega
                          go_wp2_with fail
                          go_big_quiet (first | (go_at_call 40; refine Calls.quiet_of_same (less_u32 _ _ _)))
                          go_wp2
                          · have ht : (!ltInt (G q1) (G a)) = true := by assumption
                            go_roundw
                            case rel => exact ⟨q1 - 1, by go_num, by omega, by omega, S4.out.drewN nq, (scanDown_go (fun x => !ltInt x dk1[a]!) dk1 p1 q1 hle2 (by omega) (by rw [← hG.out a, ← hG.out q1]; exact ht)).symm.trans HD.out⟩
                            case measure => simp [intOf]; omega
                          · have ht : (!ltInt (G q1) (G a)) = false := by assumption
                            have HJ2 : Hid (q1 = scanDown (fun x => !ltInt x dk1[a]!) dk1 p1 j1) := (scanDown_end (fun x => !ltInt x dk1[a]!) dk1 p1 q1 (.inr (by rw [← hG.out a, ← hG.out q1]; exact ht))).symm.trans HD.out
                            have S5 : Hid (SW (.int .u32) w0 blk off dk1 (wr.drewN nq)) := S4.out.drewN nq
                            clear hc hf hG S4 HD ht
                            generalize wr.drewN nq = w5 at S5 ⊢
                            have hlt := part_scans_lt ltInt a i1 j1 dk1 (by omega) HI2.out HJ2.out hle2
                            obtain ⟨G, hG, hc, hf⟩ := row_facts S5.out R hds
                            have hpl : p1 < d0.size := by omega
                            have hql : q1 < d0.size := by omega
                            obtain ⟨u, hu⟩ := S5.out.c2 R hds p1 q1 (by omega) (by omega) (.int .u32 (G q1))
                            have S6 : Hid (SW (.int .u32) w0 blk off (swp dk1 p1 q1) ((w5.setCell ⟨blk, off + p1, none⟩ (.int .u32 (G q1))).setCell ⟨blk, off + q1, none⟩ (.int .u32 (G p1))).drew) := by
                              have := S5.out.swapped R p1 q1 (by omega) (by omega)
                              rw [← hG.out p1, ← hG.out q1] at this
                              exact this
                            clear S5
                            go_wp2
                            go_region
                            all_goals go_wp2
                            go_roundw
                            case rel =>
                              refine ⟨p1 + 1, q1 - 1, swp dk1 p1 q1, by go_num, by go_num, by omega, by omega, by omega, by rw [size_swp]; exact hds, S6, ?_⟩
                              rw [← HL.out, part_go ltInt a i1 j1 dk1 HI2.out HJ2.out (by omega)]
                              exact rfl
                            case measure => simp [intOf]; omega
                        · have HJ2 : Hid (q1 = scanDown (fun x => !ltInt x dk1[a]!) dk1 p1 j1) := (scanDown_end (fun x => !ltInt x dk1[a]!) dk1 p1 q1 (.inl hle2)).symm.trans HD.out
                          go_wp2_with fail
                          go_big_quiet (fail)
                          have S5 : Hid (SW (.int .u32) w0 blk off dk1 (wr.drewN nq)) := S4.out.drewN nq
                          clear S4 HD
                          generalize wr.drewN nq = w5 at S5 ⊢
                          have hlt : q1 < p1 := by omega
                          go_wp2_with fail
                          obtain ⟨G, hG, hc, hf⟩ := row_facts S5.out R hds
                          have hql : q1 < d0.size := by omega
                          have hal : a < d0.size := by omega
                          obtain ⟨u, hu⟩ := S5.out.c2 R hds q1 a (by omega) (by omega) (.int .u32 (G a))
                          have S6 : Hid (SW (.int .u32) w0 blk off (swp dk1 q1 a) ((w5.setCell ⟨blk, off + q1, none⟩ (.int .u32 (G a))).setCell ⟨blk, off + a, none⟩ (.int .u32 (G q1))).drew) := by
                            have := S5.out.swapped R q1 a (by omega) (by omega)
                            rw [← hG.out q1, ← hG.out a] at this
                            exact this
                          clear S5
                          go_wp2
                          go_region
                          all_goals go_wp2
                          go_ret2
                          have e := HL.out
                          rw [part_break ltInt a i1 j1 dk1 HI2.out HJ2.out hlt] at e
                          rw [HP.out, ← e]
                          exact ⟨rfl, S6.out⟩
                  · have HI2 : Hid (p1 = scanUp (fun x => ltInt x dk1[a]!) dk1 j1 i1) := (scanUp_end (fun x => ltInt x dk1[a]!) dk1 j1 p1 (.inl hle)).symm.trans HU.out
                    go_wp2_with fail
                    go_big_quiet (fail)
                    have S3 : Hid (SW (.int .u32) w0 blk off dk1 (wr.drewN nq)) := S2.out.drewN nq
                    clear S2 HU
                    generalize wr.drewN nq = w3 at S3 ⊢
                    go_wp2_with fail
                    go_loopw [11] (fun vj wr => vj = .int .i64 j1 ∧ Hid (SW (.int .u32) w0 blk off dk1 wr)) (fun vj _ => 0)
                    case atStart => exact ⟨rfl, S3⟩
                    case round =>
                      clear S3
                      obtain ⟨rfl, S4⟩ := hrel
                      have HJ2 : Hid (j1 = scanDown (fun x => !ltInt x dk1[a]!) dk1 p1 j1) := (scanDown_end (fun x => !ltInt x dk1[a]!) dk1 p1 j1 (.inl hle)).symm
                      go_wp2_with fail
                      go_big_quiet (fail)
                      have S5 : Hid (SW (.int .u32) w0 blk off dk1 (wr.drewN nq)) := S4.out.drewN nq
                      clear S4
                      generalize wr.drewN nq = w5 at S5 ⊢
                      have hlt : j1 < p1 := by omega
                      go_wp2_with fail
                      obtain ⟨G, hG, hc, hf⟩ := row_facts S5.out R hds
                      have hql : j1 < d0.size := by omega
                      have hal : a < d0.size := by omega
                      obtain ⟨u, hu⟩ := S5.out.c2 R hds j1 a (by omega) (by omega) (.int .u32 (G a))
                      have S6 : Hid (SW (.int .u32) w0 blk off (swp dk1 j1 a) ((w5.setCell ⟨blk, off + j1, none⟩ (.int .u32 (G a))).setCell ⟨blk, off + a, none⟩ (.int .u32 (G j1))).drew) := by
                        have := S5.out.swapped R j1 a (by omega) (by omega)
                        rw [← hG.out j1, ← hG.out a] at this
                        exact this
                      clear S5
                      go_wp2
                      go_region
                      all_goals go_wp2
                      go_ret2
                      have e := HL.out
                      rw [part_break ltInt a i1 j1 dk1 HI2.out HJ2.out hlt] at e
                      rw [HP.out, ← e]
                      exact ⟨rfl, S6.out⟩
          · have HJ2 : Hid (q = scanDown (fun x => !ltInt x dk[a]!) dk p j) := (scanDown_end (fun x => !ltInt x dk[a]!) dk p q (.inl hle2)).symm.trans HD.out
            go_wp2_with fail
            go_big_quiet (fail)
            have S5 : Hid (SW (.int .u32) w0 blk off dk (wr.drewN nq)) := S4.out.drewN nq
            clear S4 HD
            generalize wr.drewN nq = w5 at S5 ⊢
            have hlt : q < p := by omega
            go_wp2_with fail
            obtain ⟨G, hG, hc, hf⟩ := row_facts S5.out R hds
            have hql : q < d0.size := by omega
            have hal : a < d0.size := by omega
            obtain ⟨u, hu⟩ := S5.out.c2 R hds q a (by omega) (by omega) (.int .u32 (G a))
            have S6 : Hid (SW (.int .u32) w0 blk off (swp dk q a) ((w5.setCell ⟨blk, off + q, none⟩ (.int .u32 (G a))).setCell ⟨blk, off + a, none⟩ (.int .u32 (G q))).drew) := by
              have := S5.out.swapped R q a (by omega) (by omega)
              rw [← hG.out q, ← hG.out a] at this
              exact this
            clear S5
            go_wp2
            go_region
            all_goals go_wp2
            go_ret2
            have e := part_first_break ltInt d a b pivot Hi.out Hj.out Hdk.out HI2.out HJ2.out hlt
            rw [e]
            exact ⟨rfl, S6.out⟩
    · have HI2 : Hid (p = scanUp (fun x => ltInt x dk[a]!) dk j i) := (scanUp_end (fun x => ltInt x dk[a]!) dk j p (.inl hle)).symm.trans HU.out
      go_wp2_with fail
      go_big_quiet (fail)
      have S3 : Hid (SW (.int .u32) w0 blk off dk (wr.drewN nq)) := S2.out.drewN nq
      clear S2 HU
      generalize wr.drewN nq = w3 at S3 ⊢
      go_wp2_with fail
      go_loopw [11] (fun vj wr => vj = .int .i64 j ∧ Hid (SW (.int .u32) w0 blk off dk wr)) (fun vj _ => 0)
      case atStart => exact ⟨rfl, S3⟩
      case round =>
        clear S3
        obtain ⟨rfl, S4⟩ := hrel
        have HJ2 : Hid (j = scanDown (fun x => !ltInt x dk[a]!) dk p j) := (scanDown_end (fun x => !ltInt x dk[a]!) dk p j (.inl hle)).symm
        go_wp2_with fail
        go_big_quiet (fail)
        have S5 : Hid (SW (.int .u32) w0 blk off dk (wr.drewN nq)) := S4.out.drewN nq
        clear S4
        generalize wr.drewN nq = w5 at S5 ⊢
        have hlt : j < p := by omega
        go_wp2_with fail
        obtain ⟨G, hG, hc, hf⟩ := row_facts S5.out R hds
        have hql : j < d0.size := by omega
        have hal : a < d0.size := by omega
        obtain ⟨u, hu⟩ := S5.out.c2 R hds j a (by omega) (by omega) (.int .u32 (G a))
        have S6 : Hid (SW (.int .u32) w0 blk off (swp dk j a) ((w5.setCell ⟨blk, off + j, none⟩ (.int .u32 (G a))).setCell ⟨blk, off + a, none⟩ (.int .u32 (G j))).drew) := by
          have := S5.out.swapped R j a (by omega) (by omega)
          rw [← hG.out j, ← hG.out a] at this
          exact this
        clear S5
        go_wp2
        go_region
        all_goals go_wp2
        go_ret2
        have e := part_first_break ltInt d a b pivot Hi.out Hj.out Hdk.out HI2.out HJ2.out hlt
        rw [e]
        exact ⟨rfl, S6.out⟩
end Go.Proofs.Ytdkbfcogmlghfaa.P

namespace Go.Proofs.Ytdkbfcogmlghfaa.P
open Go.RowKit Go.Sort Go.Shelf Go.Lib
set_option linter.unusedVariables false
set_option linter.unusedSimpArgs false
theorem eq_end (a i j p q : Nat) (d : Array Int) (hp : p = scanUp (fun x => !ltInt d[a]! x) d j i) (hq : q = scanDown (fun x => ltInt d[a]! x) d p j) (h : q < p) : partEqLoop ltInt a i j d = (p, d) := by
  subst hp; subst hq
  rw [partEqLoop_eq, if_pos h]
theorem eq_go (a i j p q : Nat) (d : Array Int) (hp : p = scanUp (fun x => !ltInt d[a]! x) d j i) (hq : q = scanDown (fun x => ltInt d[a]! x) d p j) (h : ¬ p > q) : partEqLoop ltInt a i j d = partEqLoop ltInt a (p + 1) (q - 1) (swp d p q) := by
  subst hp; subst hq
  rw [partEqLoop_eq, if_neg h]
set_option maxHeartbeats 16000000 in
set_option maxRecDepth 100000 in
theorem partEq_u32 (blk off cap a b pivot : Nat) (d0 d : Array Int) (w0 w : World) (R : Row1 (.int .u32) w0 blk off d0) (hs : d.size = d0.size) (S : SW (.int .u32) w0 blk off d w) (hap : a ≤ pivot) (hpb : pivot < b) (hb : b ≤ d0.size) (hsz : d0.size < 4611686018427387904) :
    Calls Try.prog 41 #[.slice (some ⟨blk, off, none⟩) d0.size cap, .int .i64 a, .int .i64 b, .int .i64 pivot] w fun e w' =>
      e = .returned (.int .i64 (partitionEqual ltInt d a b pivot).1) ∧ SW (.int .u32) w0 blk off (partitionEqual ltInt d a b pivot).2 w' := by
  have hal : a < d0.size := by omega
  have hpl0 : pivot < d0.size := by omega
  obtain ⟨G, hG, hc, hf⟩ := row_facts S R hs
  obtain ⟨u, hu⟩ := S.c2 R hs a pivot (by omega) (by omega) (.int .u32 (G pivot))
  have S0 : Hid (SW (.int .u32) w0 blk off (swp d a pivot) ((w.setCell ⟨blk, off + a, none⟩ (.int .u32 (G pivot))).setCell ⟨blk, off + pivot, none⟩ (.int .u32 (G a))).drew) := by
    have := S.swapped R a pivot (by omega) (by omega)
    rw [← hG.out a, ← hG.out pivot] at this
    exact this
  clear S
  go_enter Try.func41, Try.ntmps41
  go_wp2
  go_region
  all_goals go_wp2
  clear hc hf hu
  generalize ((w.setCell ⟨blk, off + a, none⟩ (.int .u32 (G pivot))).setCell ⟨blk, off + pivot, none⟩ (.int .u32 (G a))).drew = w1 at S0 ⊢
  clear hG
  obtain ⟨Rr, hR⟩ : ∃ Rr, Rr = partEqLoop ltInt a (a + 1) (b - 1) (swp d a pivot) := ⟨_, rfl⟩
  have HP : Hid (partitionEqual ltInt d a b pivot = Rr) := by rw [hR]; exact rfl
  have HR : Hid (Rr = partEqLoop ltInt a (a + 1) (b - 1) (swp d a pivot)) := hR
  clear hR
  go_loopw [9, 10] (fun vi vj wr => ∃ (i j : Nat) (dk : Array Int), vi = .int .i64 i ∧ vj = .int .i64 j ∧ a < i ∧ i ≤ j + 1 ∧ j < b ∧ dk.size = d0.size ∧ Hid (SW (.int .u32) w0 blk off dk wr) ∧ Hid (partEqLoop ltInt a i j dk = Rr))
    (fun vi vj _ => (intOf vj).toNat + 1 - (intOf vi).toNat)
  case atStart => exact ⟨a + 1, b - 1, swp d a pivot, by go_num, by congr 1; omega, by omega, by omega, by omega, by rw [size_swp]; exact hs, S0, HR.out.symm⟩
  case round =>
    clear S0 HR hs
    obtain ⟨i, j, dk, rfl, rfl, hai, hij, hjb, hds, S1, HL⟩ := hrel
    go_wp2
    go_loopw [9] (fun vi wr => ∃ p : Nat, vi = .int .i64 p ∧ i ≤ p ∧ p ≤ j + 1 ∧ Hid (SW (.int .u32) w0 blk off dk wr) ∧ Hid (scanUp (fun x => !ltInt dk[a]! x) dk j p = scanUp (fun x => !ltInt dk[a]! x) dk j i))
      (fun vi _ => j + 1 - (intOf vi).toNat)
    case atStart => exact ⟨i, rfl, Nat.le_refl _, hij, S1, rfl⟩
    case round =>
      clear S1
      obtain ⟨p, rfl, hip, hpj, S2, HU⟩ := hrel
      by_cases hle : p ≤ j
      · obtain ⟨G, hG, hc, hf⟩ := row_facts S2.out R hds
        have hpl : p < d0.size := by omega
        go_wp2_with fail
        go_big_quiet (first | (go_at_call 40; refine Calls.quiet_of_same (less_u32 _ _ _)))
        go_wp2
        · have ht : (!ltInt (G a) (G p)) = true := by assumption
          go_roundw
          case rel => exact ⟨p + 1, by go_num, by omega, by omega, S2.out.drewN nq, (scanUp_go (fun x => !ltInt dk[a]! x) dk j p hle (by rw [← hG.out a, ← hG.out p]; exact ht)).symm.trans HU.out⟩
          case measure => simp [intOf]; omega
        · have ht : (!ltInt (G a) (G p)) = false := by assumption
          have HT : Hid (ltInt dk[a]! dk[p]! = true) := by rw [← hG.out a, ← hG.out p]; exact (show ltInt (G a) (G p) = true by simpa using ht)
          have HI2 : Hid (p = scanUp (fun x => !ltInt dk[a]! x) dk j i) := (scanUp_end (fun x => !ltInt dk[a]! x) dk j p (.inr (by rw [← hG.out a, ← hG.out p]; exact ht))).symm.trans HU.out
          have S3 : Hid (SW (.int .u32) w0 blk off dk (wr.drewN nq)) := S2.out.drewN nq
          clear hc hf hG S2 HU ht
          go_loopw [10] (fun vj wr => ∃ q : Nat, vj = .int .i64 q ∧ q ≤ j ∧ p ≤ q + 1 ∧ Hid (SW (.int .u32) w0 blk off dk wr) ∧ Hid (scanDown (fun x => ltInt dk[a]! x) dk p q = scanDown (fun x => ltInt dk[a]! x) dk p j))
            (fun vj _ => (intOf vj).toNat)
          case atStart => exact ⟨j, rfl, Nat.le_refl _, hpj, S3, rfl⟩
          case round =>
            clear S3
            obtain ⟨q, rfl, hqj, hpq, S4, HD⟩ := hrel
            by_cases hle2 : p ≤ q
            · obtain ⟨G, hG, hc, hf⟩ := row_facts S4.out R hds
              have hql : q < d0.size := by omega
              go_wp2_with fail
              go_big_quiet (first | (go_at_call 40; refine Calls.quiet_of_same (less_u32 _ _ _)))
              go_wp2
              · have ht : ltInt (G a) (G q) = true := by assumption
                go_roundw
                case rel => exact ⟨q - 1, by go_num, by omega, by omega, S4.out.drewN nq, (scanDown_go (fun x => ltInt dk[a]! x) dk p q hle2 (by omega) (by rw [← hG.out a, ← hG.out q]; exact ht)).symm.trans HD.out⟩
                case measure => simp [intOf]; omega
              · have ht : ltInt (G a) (G q) = false := by assumption
                have HJ2 : Hid (q = scanDown (fun x => ltInt dk[a]! x) dk p j) := (scanDown_end (fun x => ltInt dk[a]! x) dk p q (.inr (by rw [← hG.out a, ← hG.out q]; exact ht))).symm.trans HD.out
                have hne : p ≠ q := fun e => by
                  have h1 := HT.out
                  rw [e, ← hG.out a, ← hG.out q, ht] at h1
                  exact absurd h1 (by simp)
                have S5 : Hid (SW (.int .u32) w0 blk off dk (wr.drewN nq)) := S4.out.drewN nq
                clear hc hf hG S4 HD ht
                generalize wr.drewN nq = w5 at S5 ⊢
                have hlt : p < q := by omega
                obtain ⟨G, hG, hc, hf⟩ := row_facts S5.out R hds
                have hql : q < d0.size := by omega
                obtain ⟨u, hu⟩ := S5.out.c2 R hds p q (by omega) (by omega) (.int .u32 (G q))
                have S6 : Hid (SW (.int .u32) w0 blk off (swp dk p q) ((w5.setCell ⟨blk, off + p, none⟩ (.int .u32 (G q))).setCell ⟨blk, off + q, none⟩ (.int .u32 (G p))).drew) := by
                  have := S5.out.swapped R p q (by omega) (by omega)
                  rw [← hG.out p, ← hG.out q] at this
                  exact this
                clear S5
                go_wp2
                go_region
                all_goals go_wp2
                go_roundw
                case rel =>
                  refine ⟨p + 1, q - 1, swp dk p q, by go_num, by go_num, by omega, by omega, by omega, by rw [size_swp]; exact hds, S6, ?_⟩
                  rw [← HL.out, eq_go a i j p q dk HI2.out HJ2.out (by omega)]
                  exact rfl
                case measure => simp [intOf]; omega
            · have HJ2 : Hid (q = scanDown (fun x => ltInt dk[a]! x) dk p j) := (scanDown_end (fun x => ltInt dk[a]! x) dk p q (.inl hle2)).symm.trans HD.out
              go_wp2_with fail
              go_big_quiet (fail)
              have S5 : Hid (SW (.int .u32) w0 blk off dk (wr.drewN nq)) := S4.out.drewN nq
              clear S4 HD
              generalize wr.drewN nq = w5 at S5 ⊢
              have hlt : q < p := by omega
              have e := HL.out
              rw [eq_end a i j p q dk HI2.out HJ2.out hlt] at e
              go_wp2
              go_ret
              rw [HP.out, ← e]
              exact ⟨rfl, S5.out⟩
      · have HI2 : Hid (p = scanUp (fun x => !ltInt dk[a]! x) dk j i) := (scanUp_end (fun x => !ltInt dk[a]! x) dk j p (.inl hle)).symm.trans HU.out
        go_wp2_with fail
        go_big_quiet (fail)
        have S3 : Hid (SW (.int .u32) w0 blk off dk (wr.drewN nq)) := S2.out.drewN nq
        clear S2 HU
        generalize wr.drewN nq = w3 at S3 ⊢
        go_wp2_with fail
        go_loopw [10] (fun vj wr => vj = .int .i64 j ∧ Hid (SW (.int .u32) w0 blk off dk wr)) (fun vj _ => 0)
        case atStart => exact ⟨rfl, S3⟩
        case round =>
          clear S3
          obtain ⟨rfl, S4⟩ := hrel
          have HJ2 : Hid (j = scanDown (fun x => ltInt dk[a]! x) dk p j) := (scanDown_end (fun x => ltInt dk[a]! x) dk p j (.inl hle)).symm
          go_wp2_with fail
          go_big_quiet (fail)
          have S5 : Hid (SW (.int .u32) w0 blk off dk (wr.drewN nq)) := S4.out.drewN nq
          clear S4
          generalize wr.drewN nq = w5 at S5 ⊢
          have hlt : j < p := by omega
          have e := HL.out
          rw [eq_end a i j p j dk HI2.out HJ2.out hlt] at e
          go_wp2
          go_ret
          rw [HP.out, ← e]
          exact ⟨rfl, S5.out⟩
end Go.Proofs.Ytdkbfcogmlghfaa.P

namespace Go.Proofs.Ytdkbfcogmlghfaa.P
open Go.RowKit Go.Sort Go.Shelf Go.Lib
set_option linter.unusedVariables false
set_option linter.unusedSimpArgs false
theorem scanS_go (d : Array Int) (b i k : Nat) (hk : k = i - 1) (h : i < b) (hl : (!ltInt d[i]! d[k]!) = true) : scanSorted ltInt d b i = scanSorted ltInt d b (i + 1) := by
  subst hk
  rw [scanSorted, if_pos (by rw [hl]; simp [h])]
theorem scanS_end (d : Array Int) (b i k : Nat) (hk : k = i - 1) (h : ¬ i < b ∨ (!ltInt d[i]! d[k]!) = false) : scanSorted ltInt d b i = i := by
  subst hk
  rw [scanSorted, if_neg (by rcases h with h | h <;> simp [h])]
theorem shD_stop (d : Array Int) (q k : Nat) (hk : q = k + 1) (h : (!ltInt d[q]! d[k]!) = true) : shiftDown ltInt q d = d := by
  subst hk
  rw [shiftDown, if_pos h]
theorem shD_go (d : Array Int) (q k : Nat) (hk : q = k + 1) (h : (!ltInt d[q]! d[k]!) = false) : shiftDown ltInt q d = shiftDown ltInt k (swp d q k) := by
  subst hk
  rw [shiftDown, if_neg (by rw [h]; simp)]
theorem shU_stop (d : Array Int) (b q k : Nat) (hk : k = q - 1) (hb : q < b) (h : (!ltInt d[q]! d[k]!) = true) : shiftUp ltInt b q d = d := by
  subst hk
  rw [shiftUp, if_pos hb, if_pos h]
theorem shU_go (d : Array Int) (b q k : Nat) (hk : k = q - 1) (hb : q < b) (h : (!ltInt d[q]! d[k]!) = false) : shiftUp ltInt b q d = shiftUp ltInt b (q + 1) (swp d q k) := by
  subst hk
  rw [shiftUp, if_pos hb, if_neg (by rw [h]; simp)]
theorem shU_end (d : Array Int) (b q : Nat) (hb : ¬ q < b) : shiftUp ltInt b q d = d := by rw [shiftUp, if_neg hb]
theorem part_true (a b s i p : Nat) (d : Array Int) (hp : p = scanSorted ltInt d b i) (hb : p = b) : partialIns ltInt a b (s + 1) i d = (d, true) := by
  subst hp
  unfold partialIns
  simp only [hb, if_true]
theorem part_false (a b s i p : Nat) (d : Array Int) (hp : p = scanSorted ltInt d b i) (hb : p ≠ b) (h : b - a < 50) : partialIns ltInt a b (s + 1) i d = (d, false) := by
  subst hp
  unfold partialIns
  simp only [if_neg hb, if_pos h]
theorem part_step (a b s i p pm : Nat) (d d2 d3 : Array Int) (hp : p = scanSorted ltInt d b i) (hpm : pm = p - 1) (hb : p ≠ b) (h : ¬ b - a < 50) (h2 : d2 = if p - a ≥ 2 then shiftDown ltInt pm (swp d p pm) else swp d p pm)
    (h3 : d3 = if b - p ≥ 2 then shiftUp ltInt b (p + 1) d2 else d2) : partialIns ltInt a b (s + 1) i d = partialIns ltInt a b s p d3 := by
  subst h3; subst h2; subst hpm; subst hp
  conv => lhs; unfold partialIns
  simp only [if_neg hb, if_neg h]
set_option maxHeartbeats 16000000 in
set_option maxRecDepth 100000 in
theorem partial_u32 (blk off cap a b : Nat) (d0 d : Array Int) (w0 w : World) (R : Row1 (.int .u32) w0 blk off d0) (hs : d.size = d0.size) (S : SW (.int .u32) w0 blk off d w) (hab : a < b) (hb : b ≤ d0.size) (hsz : d0.size < 4611686018427387904) :
    Calls Try.prog 39 #[.slice (some ⟨blk, off, none⟩) d0.size cap, .int .i64 a, .int .i64 b] w fun e w' =>
      e = .returned (.bool (partialInsertionSort ltInt d a b).2) ∧ SW (.int .u32) w0 blk off (partialInsertionSort ltInt d a b).1 w' ∧ (partialInsertionSort ltInt d a b).1.size = d0.size := by
  have S0 : Hid (SW (.int .u32) w0 blk off d w) := S
  clear S
  obtain ⟨Rr, hR⟩ : ∃ Rr, Rr = partialIns ltInt a b 5 (a + 1) d := ⟨_, rfl⟩
  have HP : Hid (partialInsertionSort ltInt d a b = Rr) := by rw [hR]; exact rfl
  have HR0 : Hid (Rr = partialIns ltInt a b 5 (a + 1) d) := hR
  clear hR
  go_enter Try.func39, Try.ntmps39
  go_wp2
  all_goals (try (exfalso; omega))
  go_loopw [7, 8, 9, 10] (fun v7 v8 v9 v10 wr => ∃ (i s : Nat) (dk : Array Int), v7 = .int .i64 i ∧ v8 = .int .i64 s ∧ s ≤ 5 ∧ a + 1 ≤ i ∧ i ≤ b ∧ dk.size = d0.size ∧ Hid (SW (.int .u32) w0 blk off dk wr) ∧ Hid (partialIns ltInt a b (5 - s) i dk = Rr))
    (fun v7 v8 v9 v10 _ => 5 - (intOf v8).toNat)
  case atStart => exact ⟨a + 1, 0, d, by go_num, rfl, by omega, by omega, by omega, hs, S0, HR0.out.symm⟩
  case round =>
    clear S0 HR0 hs
    obtain ⟨i, s, dk, rfl, rfl, hs5, hai, hib, hds, S1, HL⟩ := hrel
    by_cases hs4 : s < 5
    · have hs4z : (s : Int) < 5 := by omega
      go_wp2
      all_goals (try (exfalso; omega))
      go_loopw [7] (fun vi wr => ∃ p : Nat, vi = .int .i64 p ∧ i ≤ p ∧ p ≤ b ∧ Hid (SW (.int .u32) w0 blk off dk wr) ∧ Hid (scanSorted ltInt dk b p = scanSorted ltInt dk b i))
        (fun vi _ => b - (intOf vi).toNat)
      case atStart => exact ⟨i, rfl, Nat.le_refl _, hib, S1, rfl⟩
      case round =>
        clear S1
        obtain ⟨p, rfl, hip, hpb, S2, HU⟩ := hrel
        obtain ⟨pm, hpm⟩ : ∃ pm, pm = p - 1 := ⟨_, rfl⟩
        have ep : (p : Int) - 1 = (pm : Int) := by omega
        have hpn : p ≠ pm := by omega
        have hpml : pm < d0.size := by omega
        have HPM : Hid (pm = p - 1) := hpm
        by_cases hlt : p < b
        · clear hpm
          obtain ⟨G, hG, hc, hf⟩ := row_facts S2.out R hds
          have hpl : p < d0.size := by omega
          go_wp2_with fail
          go_big_quiet (first | (go_at_call 40; refine Calls.quiet_of_same (less_u32 _ _ _)))
          go_wp2
          · have ht : (!ltInt (G p) (G pm)) = true := by assumption
            go_roundw
            case rel => exact ⟨p + 1, by go_num, by omega, by omega, S2.out.drewN nq, (scanS_go dk b p pm HPM.out hlt (by rw [← hG.out p, ← hG.out pm]; exact ht)).symm.trans HU.out⟩
            case measure => simp [intOf]; omega
          · have h50 : b - a < 50 := by omega
            have ht : (!ltInt (G p) (G pm)) = false := by assumption
            have HI2 : Hid (p = scanSorted ltInt dk b i) := (scanS_end dk b p pm HPM.out (.inr (by rw [← hG.out p, ← hG.out pm]; exact ht))).symm.trans HU.out
            have S5 : Hid (SW (.int .u32) w0 blk off dk (wr.drewN nq)) := S2.out.drewN nq
            clear hc hf hG ht S2 HU
            generalize wr.drewN nq = w5 at S5 ⊢
            go_wp2
            go_ret
            have e := part_false a b (4 - s) i p dk HI2.out (by omega) h50
            have h := HL.out
            rw [show 5 - s = 4 - s + 1 from by omega, e] at h
            rw [HP.out, ← h]
            exact ⟨rfl, S5.out, hds⟩
          · have h50 : ¬ b - a < 50 := by omega
            have ht : (!ltInt (G p) (G pm)) = false := by assumption
            have HI2 : Hid (p = scanSorted ltInt dk b i) := (scanS_end dk b p pm HPM.out (.inr (by rw [← hG.out p, ← hG.out pm]; exact ht))).symm.trans HU.out
            have S5 : Hid (SW (.int .u32) w0 blk off dk (wr.drewN nq)) := S2.out.drewN nq
            clear hc hf hG ht S2 HU
            generalize wr.drewN nq = w5 at S5 ⊢
            have hdq := hds
            obtain ⟨G, hG, hc, hf⟩ := row_facts S5.out R hdq
            obtain ⟨u, hu⟩ := S5.out.c2 R hdq p pm (by omega) (by omega) (.int .u32 (G pm))
            have S6 : Hid (SW (.int .u32) w0 blk off (swp dk p pm) ((w5.setCell ⟨blk, off + p, none⟩ (.int .u32 (G pm))).setCell ⟨blk, off + pm, none⟩ (.int .u32 (G p))).drew) := by
              have := S5.out.swapped R p pm (by omega) (by omega)
              rw [← hG.out p, ← hG.out pm] at this
              exact this
            clear S5
            go_wp2
            all_goals (try (exfalso; omega))
            go_region
            all_goals go_wp2
            · have ha2 : 2 ≤ p - a := by omega
              clear hc hf hG hu
              generalize ((w5.setCell ⟨blk, off + p, none⟩ (.int .u32 (G pm))).setCell ⟨blk, off + pm, none⟩ (.int .u32 (G p))).drew = w6 at S6 ⊢
              obtain ⟨d1, hd1⟩ : ∃ d1, d1 = swp dk p pm := ⟨_, rfl⟩
              have hdq1 : d1.size = d0.size := by rw [hd1, size_swp]; exact hds
              rw [← hd1] at S6
              have HD1 : Hid (d1 = swp dk p pm) := hd1
              clear hd1 hdq
              go_loopw [9] (fun vq wr => ∃ (q : Nat) (dq : Array Int), vq = .int .i64 q ∧ q ≤ pm ∧ dq.size = d0.size ∧ Hid (SW (.int .u32) w0 blk off dq wr) ∧ Hid (shiftDown ltInt q dq = shiftDown ltInt pm d1))
                (fun vq _ => (intOf vq).toNat)
              case atStart => exact ⟨pm, d1, rfl, Nat.le_refl _, hdq1, S6, rfl⟩
              case round =>
                clear S6 hdq1
                obtain ⟨q, dq, rfl, hqp, hdq, S7, HQ⟩ := hrel
                by_cases hq1 : 1 ≤ q
                · obtain ⟨qm, hqm⟩ : ∃ qm, q = qm + 1 := ⟨q - 1, by omega⟩
                  have eq1 : (q : Int) - 1 = (qm : Int) := by omega
                  have hql : q < d0.size := by omega
                  have hqml : qm < d0.size := by omega
                  have hqn : q ≠ qm := by omega
                  have hq1z : (1 : Int) ≤ (q : Int) := by omega
                  have HQM : Hid (q = qm + 1) := hqm
                  clear hqm
                  obtain ⟨G, hG, hc, hf⟩ := row_facts S7.out R hdq
                  go_wp2_with fail
                  go_big_quiet (first | (go_at_call 40; refine Calls.quiet_of_same (less_u32 _ _ _)))
                  go_wp2
                  · have ht : (!ltInt (G q) (G qm)) = true := by assumption
                    have HDQ : Hid (dq = if p - a ≥ 2 then shiftDown ltInt pm (swp dk p pm) else swp dk p pm) := by
                      show dq = _
                      rw [if_pos ha2, ← HD1.out, ← HQ.out, shD_stop dq q qm HQM.out (by rw [← hG.out q, ← hG.out qm]; exact ht)]
                    have S5 : Hid (SW (.int .u32) w0 blk off dq (wr.drewN nq)) := S7.out.drewN nq
                    clear hc hf hG ht S7 HQ
                    generalize wr.drewN nq = w7 at S5 ⊢
                    have hb2 : 2 ≤ b - p := by omega
                    obtain ⟨d2, hd2⟩ : ∃ d2, d2 = dq := ⟨_, rfl⟩
                    rw [← hd2] at S5 HDQ
                    have hdq2 : d2.size = d0.size := by rw [hd2]; exact hdq
                    have HD2 : Hid (d2 = if p - a ≥ 2 then shiftDown ltInt pm (swp dk p pm) else swp dk p pm) := HDQ
                    clear hd2 HDQ
                    go_loopw [10] (fun vr wr => ∃ (r : Nat) (dr : Array Int), vr = .int .i64 r ∧ p + 1 ≤ r ∧ r ≤ b ∧ dr.size = d0.size ∧ Hid (SW (.int .u32) w0 blk off dr wr) ∧ Hid (shiftUp ltInt b r dr = shiftUp ltInt b (p + 1) d2))
                      (fun vr _ => b - (intOf vr).toNat)
                    case atStart => exact ⟨p + 1, d2, by go_num, Nat.le_refl _, by omega, hdq2, S5, rfl⟩
                    case round =>
                      clear S5 hdq2
                      obtain ⟨r, dr, rfl, hpr, hrb, hdr, S7, HR⟩ := hrel
                      by_cases hrlt : r < b
                      · obtain ⟨G, hG, hc, hf⟩ := row_facts S7.out R hdr
                        obtain ⟨rm, hrm⟩ : ∃ rm, rm = r - 1 := ⟨_, rfl⟩
                        have er : (r : Int) - 1 = (rm : Int) := by omega
                        have hrl : r < d0.size := by omega
                        have hrml : rm < d0.size := by omega
                        have hrn : r ≠ rm := by omega
                        have HRM : Hid (rm = r - 1) := hrm
                        clear hrm
                        go_wp2_with fail
                        go_big_quiet (first | (go_at_call 40; refine Calls.quiet_of_same (less_u32 _ _ _)))
                        go_wp2
                        · have ht : (!ltInt (G r) (G rm)) = true := by assumption
                          have S5 : Hid (SW (.int .u32) w0 blk off dr (wr.drewN nq)) := S7.out.drewN nq
                          have hdz := hdr
                          have HZ : Hid (dr = if b - p ≥ 2 then shiftUp ltInt b (p + 1) d2 else d2) := by
                            show dr = _
                            rw [if_pos hb2, ← HR.out, shU_stop dr b r rm HRM.out hrlt (by rw [← hG.out r, ← hG.out rm]; exact ht)]
                          have HD3 : Hid (dr = if b - p ≥ 2 then shiftUp ltInt b (p + 1) d2 else d2) := HZ
                          go_roundw
                          case rel =>
                            refine ⟨p, s + 1, dr, rfl, by go_num, by omega, by omega, by omega, hdz, S5, ?_⟩
                            have e := part_step a b (4 - s) i p pm dk d2 dr HI2.out HPM.out (by omega) h50 HD2.out HD3.out
                            have h := HL.out
                            rw [show 5 - s = 4 - s + 1 from by omega, e] at h
                            show _ = _
                            rw [← h, show 5 - (s + 1) = 4 - s from by omega]
                          case measure => simp [intOf]; omega
                        · have ht : (!ltInt (G r) (G rm)) = false := by assumption
                          have HT : Hid (shiftUp ltInt b r dr = shiftUp ltInt b (r + 1) (swp dr r rm)) := shU_go dr b r rm HRM.out hrlt (by rw [← hG.out r, ← hG.out rm]; exact ht)
                          have S5 : Hid (SW (.int .u32) w0 blk off dr (wr.drewN nq)) := S7.out.drewN nq
                          clear hc hf hG ht S7
                          generalize wr.drewN nq = w7 at S5 ⊢
                          have hdq := hdr
                          obtain ⟨G, hG, hc, hf⟩ := row_facts S5.out R hdq
                          obtain ⟨u, hu⟩ := S5.out.c2 R hdq r rm (by omega) (by omega) (.int .u32 (G rm))
                          have S8 : Hid (SW (.int .u32) w0 blk off (swp dr r rm) ((w7.setCell ⟨blk, off + r, none⟩ (.int .u32 (G rm))).setCell ⟨blk, off + rm, none⟩ (.int .u32 (G r))).drew) := by
                            have := S5.out.swapped R r rm (by omega) (by omega)
                            rw [← hG.out r, ← hG.out rm] at this
                            exact this
                          clear S5
                          go_wp2
                          all_goals (try (exfalso; omega))
                          go_region
                          all_goals go_wp2
                          go_roundw
                          case rel => exact ⟨r + 1, swp dr r rm, by go_num, by omega, by omega, by rw [size_swp]; exact hdr, S8, HT.out.symm.trans HR.out⟩
                          case measure => simp [intOf]; omega
                      · have HZ : Hid (dr = if b - p ≥ 2 then shiftUp ltInt b (p + 1) d2 else d2) := by
                          show dr = _
                          rw [if_pos hb2, ← HR.out, shU_end dr b r hrlt]
                        have S5 := S7
                        have hdz := hdr
                        go_wp2
                        all_goals (try (exfalso; omega))
                        have HD3 : Hid (dr = if b - p ≥ 2 then shiftUp ltInt b (p + 1) d2 else d2) := HZ
                        go_roundw
                        case rel =>
                          refine ⟨p, s + 1, dr, rfl, by go_num, by omega, by omega, by omega, hdz, S5, ?_⟩
                          have e := part_step a b (4 - s) i p pm dk d2 dr HI2.out HPM.out (by omega) h50 HD2.out HD3.out
                          have h := HL.out
                          rw [show 5 - s = 4 - s + 1 from by omega, e] at h
                          show _ = _
                          rw [← h, show 5 - (s + 1) = 4 - s from by omega]
                        case measure => simp [intOf]; omega
                  · have ht : (!ltInt (G q) (G qm)) = true := by assumption
                    have HDQ : Hid (dq = if p - a ≥ 2 then shiftDown ltInt pm (swp dk p pm) else swp dk p pm) := by
                      show dq = _
                      rw [if_pos ha2, ← HD1.out, ← HQ.out, shD_stop dq q qm HQM.out (by rw [← hG.out q, ← hG.out qm]; exact ht)]
                    have S5 : Hid (SW (.int .u32) w0 blk off dq (wr.drewN nq)) := S7.out.drewN nq
                    clear hc hf hG ht S7 HQ
                    generalize wr.drewN nq = w7 at S5 ⊢
                    have hb2 : ¬ 2 ≤ b - p := by omega
                    obtain ⟨d2, hd2⟩ : ∃ d2, d2 = dq := ⟨_, rfl⟩
                    rw [← hd2] at S5 HDQ
                    have hdq2 : d2.size = d0.size := by rw [hd2]; exact hdq
                    have HD2 : Hid (d2 = if p - a ≥ 2 then shiftDown ltInt pm (swp dk p pm) else swp dk p pm) := HDQ
                    clear hd2 HDQ
                    have HZ : Hid (d2 = if b - p ≥ 2 then shiftUp ltInt b (p + 1) d2 else d2) := by
                      show d2 = _
                      rw [if_neg (by omega)]
                    have hdz := hdq2
                    have HD3 : Hid (d2 = if b - p ≥ 2 then shiftUp ltInt b (p + 1) d2 else d2) := HZ
                    go_roundw
                    case rel =>
                      refine ⟨p, s + 1, d2, rfl, by go_num, by omega, by omega, by omega, hdz, S5, ?_⟩
                      have e := part_step a b (4 - s) i p pm dk d2 d2 HI2.out HPM.out (by omega) h50 HD2.out HD3.out
                      have h := HL.out
                      rw [show 5 - s = 4 - s + 1 from by omega, e] at h
                      show _ = _
                      rw [← h, show 5 - (s + 1) = 4 - s from by omega]
                    case measure => simp [intOf]; omega
                  · have ht : (!ltInt (G q) (G qm)) = false := by assumption
                    have HT : Hid (shiftDown ltInt q dq = shiftDown ltInt qm (swp dq q qm)) := shD_go dq q qm HQM.out (by rw [← hG.out q, ← hG.out qm]; exact ht)
                    have S5 : Hid (SW (.int .u32) w0 blk off dq (wr.drewN nq)) := S7.out.drewN nq
                    clear hc hf hG ht S7
                    generalize wr.drewN nq = w7 at S5 ⊢
                    obtain ⟨G, hG, hc, hf⟩ := row_facts S5.out R hdq
                    obtain ⟨u, hu⟩ := S5.out.c2 R hdq q qm (by omega) (by omega) (.int .u32 (G qm))
                    have S8 : Hid (SW (.int .u32) w0 blk off (swp dq q qm) ((w7.setCell ⟨blk, off + q, none⟩ (.int .u32 (G qm))).setCell ⟨blk, off + qm, none⟩ (.int .u32 (G q))).drew) := by
                      have := S5.out.swapped R q qm (by omega) (by omega)
                      rw [← hG.out q, ← hG.out qm] at this
                      exact this
                    clear S5
                    go_wp2
                    all_goals (try (exfalso; omega))
                    go_region
                    all_goals go_wp2
                    go_roundw
                    case rel => exact ⟨qm, swp dq q qm, rfl, by omega, by rw [size_swp]; exact hdq, S8, HT.out.symm.trans HQ.out⟩
                    case measure => simp [intOf]; have := HQM.out; omega
                · have HDQ : Hid (dq = if p - a ≥ 2 then shiftDown ltInt pm (swp dk p pm) else swp dk p pm) := by
                    show dq = _
                    rw [if_pos ha2, ← HD1.out, ← HQ.out, show q = 0 from by omega]
                    exact rfl
                  have S5 := S7
                  clear S7 HQ
                  go_wp2
                  all_goals (try (exfalso; omega))
                  · have hb2 : 2 ≤ b - p := by omega
                    obtain ⟨d2, hd2⟩ : ∃ d2, d2 = dq := ⟨_, rfl⟩
                    rw [← hd2] at S5 HDQ
                    have hdq2 : d2.size = d0.size := by rw [hd2]; exact hdq
                    have HD2 : Hid (d2 = if p - a ≥ 2 then shiftDown ltInt pm (swp dk p pm) else swp dk p pm) := HDQ
                    clear hd2 HDQ
                    go_loopw [10] (fun vr wr => ∃ (r : Nat) (dr : Array Int), vr = .int .i64 r ∧ p + 1 ≤ r ∧ r ≤ b ∧ dr.size = d0.size ∧ Hid (SW (.int .u32) w0 blk off dr wr) ∧ Hid (shiftUp ltInt b r dr = shiftUp ltInt b (p + 1) d2))
                      (fun vr _ => b - (intOf vr).toNat)
                    case atStart => exact ⟨p + 1, d2, by go_num, Nat.le_refl _, by omega, hdq2, S5, rfl⟩
                    case round =>
                      clear S5 hdq2
                      obtain ⟨r, dr, rfl, hpr, hrb, hdr, S7, HR⟩ := hrel
                      by_cases hrlt : r < b
                      · obtain ⟨G, hG, hc, hf⟩ := row_facts S7.out R hdr
                        obtain ⟨rm, hrm⟩ : ∃ rm, rm = r - 1 := ⟨_, rfl⟩
                        have er : (r : Int) - 1 = (rm : Int) := by omega
                        have hrl : r < d0.size := by omega
                        have hrml : rm < d0.size := by omega
                        have hrn : r ≠ rm := by omega
                        have HRM : Hid (rm = r - 1) := hrm
                        clear hrm
                        go_wp2_with fail
                        go_big_quiet (first | (go_at_call 40; refine Calls.quiet_of_same (less_u32 _ _ _)))
                        go_wp2
                        · have ht : (!ltInt (G r) (G rm)) = true := by assumption
                          have S5 : Hid (SW (.int .u32) w0 blk off dr (wr.drewN nq)) := S7.out.drewN nq
                          have hdz := hdr
                          have HZ : Hid (dr = if b - p ≥ 2 then shiftUp ltInt b (p + 1) d2 else d2) := by
                            show dr = _
                            rw [if_pos hb2, ← HR.out, shU_stop dr b r rm HRM.out hrlt (by rw [← hG.out r, ← hG.out rm]; exact ht)]
                          have HD3 : Hid (dr = if b - p ≥ 2 then shiftUp ltInt b (p + 1) d2 else d2) := HZ
                          go_roundw
                          case rel =>
                            refine ⟨p, s + 1, dr, rfl, by go_num, by omega, by omega, by omega, hdz, S5, ?_⟩
                            have e := part_step a b (4 - s) i p pm dk d2 dr HI2.out HPM.out (by omega) h50 HD2.out HD3.out
                            have h := HL.out
                            rw [show 5 - s = 4 - s + 1 from by omega, e] at h
                            show _ = _
                            rw [← h, show 5 - (s + 1) = 4 - s from by omega]
                          case measure => simp [intOf]; omega
                        · have ht : (!ltInt (G r) (G rm)) = false := by assumption
                          have HT : Hid (shiftUp ltInt b r dr = shiftUp ltInt b (r + 1) (swp dr r rm)) := shU_go dr b r rm HRM.out hrlt (by rw [← hG.out r, ← hG.out rm]; exact ht)
                          have S5 : Hid (SW (.int .u32) w0 blk off dr (wr.drewN nq)) := S7.out.drewN nq
                          clear hc hf hG ht S7
                          generalize wr.drewN nq = w7 at S5 ⊢
                          have hdq := hdr
                          obtain ⟨G, hG, hc, hf⟩ := row_facts S5.out R hdq
                          obtain ⟨u, hu⟩ := S5.out.c2 R hdq r rm (by omega) (by omega) (.int .u32 (G rm))
                          have S8 : Hid (SW (.int .u32) w0 blk off (swp dr r rm) ((w7.setCell ⟨blk, off + r, none⟩ (.int .u32 (G rm))).setCell ⟨blk, off + rm, none⟩ (.int .u32 (G r))).drew) := by
                            have := S5.out.swapped R r rm (by omega) (by omega)
                            rw [← hG.out r, ← hG.out rm] at this
                            exact this
                          clear S5
                          go_wp2
                          all_goals (try (exfalso; omega))
                          go_region
                          all_goals go_wp2
                          go_roundw
                          case rel => exact ⟨r + 1, swp dr r rm, by go_num, by omega, by omega, by rw [size_swp]; exact hdr, S8, HT.out.symm.trans HR.out⟩
                          case measure => simp [intOf]; omega
                      · have HZ : Hid (dr = if b - p ≥ 2 then shiftUp ltInt b (p + 1) d2 else d2) := by
                          show dr = _
                          rw [if_pos hb2, ← HR.out, shU_end dr b r hrlt]
                        have S5 := S7
                        have hdz := hdr
                        go_wp2
                        all_goals (try (exfalso; omega))
                        have HD3 : Hid (dr = if b - p ≥ 2 then shiftUp ltInt b (p + 1) d2 else d2) := HZ
                        go_roundw
                        case rel =>
                          refine ⟨p, s + 1, dr, rfl, by go_num, by omega, by omega, by omega, hdz, S5, ?_⟩
                          have e := part_step a b (4 - s) i p pm dk d2 dr HI2.out HPM.out (by omega) h50 HD2.out HD3.out
                          have h := HL.out
                          rw [show 5 - s = 4 - s + 1 from by omega, e] at h
                          show _ = _
                          rw [← h, show 5 - (s + 1) = 4 - s from by omega]
                        case measure => simp [intOf]; omega
                  · have hb2 : ¬ 2 ≤ b - p := by omega
                    obtain ⟨d2, hd2⟩ : ∃ d2, d2 = dq := ⟨_, rfl⟩
                    rw [← hd2] at S5 HDQ
                    have hdq2 : d2.size = d0.size := by rw [hd2]; exact hdq
                    have HD2 : Hid (d2 = if p - a ≥ 2 then shiftDown ltInt pm (swp dk p pm) else swp dk p pm) := HDQ
                    clear hd2 HDQ
                    have HZ : Hid (d2 = if b - p ≥ 2 then shiftUp ltInt b (p + 1) d2 else d2) := by
                      show d2 = _
                      rw [if_neg (by omega)]
                    have hdz := hdq2
                    have HD3 : Hid (d2 = if b - p ≥ 2 then shiftUp ltInt b (p + 1) d2 else d2) := HZ
                    go_roundw
                    case rel =>
                      refine ⟨p, s + 1, d2, rfl, by go_num, by omega, by omega, by omega, hdz, S5, ?_⟩
                      have e := part_step a b (4 - s) i p pm dk d2 d2 HI2.out HPM.out (by omega) h50 HD2.out HD3.out
                      have h := HL.out
                      rw [show 5 - s = 4 - s + 1 from by omega, e] at h
                      show _ = _
                      rw [← h, show 5 - (s + 1) = 4 - s from by omega]
                    case measure => simp [intOf]; omega
            · clear hc hf hG hu
              generalize ((w5.setCell ⟨blk, off + p, none⟩ (.int .u32 (G pm))).setCell ⟨blk, off + pm, none⟩ (.int .u32 (G p))).drew = w6 at S6 ⊢
              obtain ⟨d1, hd1⟩ : ∃ d1, d1 = swp dk p pm := ⟨_, rfl⟩
              have hdq1 : d1.size = d0.size := by rw [hd1, size_swp]; exact hds
              rw [← hd1] at S6
              have HD1 : Hid (d1 = swp dk p pm) := hd1
              clear hd1 hdq
              have ha2 : ¬ 2 ≤ p - a := by omega
              have HDQ : Hid (d1 = if p - a ≥ 2 then shiftDown ltInt pm (swp dk p pm) else swp dk p pm) := by
                show d1 = _
                rw [if_neg (by omega)]
                exact HD1.out
              have S5 := S6
              have hdq := hdq1
              clear S6 hdq1
              have hb2 : 2 ≤ b - p := by omega
              obtain ⟨d2, hd2⟩ : ∃ d2, d2 = d1 := ⟨_, rfl⟩
              rw [← hd2] at S5 HDQ
              have hdq2 : d2.size = d0.size := by rw [hd2]; exact hdq
              have HD2 : Hid (d2 = if p - a ≥ 2 then shiftDown ltInt pm (swp dk p pm) else swp dk p pm) := HDQ
              clear hd2 HDQ
              go_loopw [10] (fun vr wr => ∃ (r : Nat) (dr : Array Int), vr = .int .i64 r ∧ p + 1 ≤ r ∧ r ≤ b ∧ dr.size = d0.size ∧ Hid (SW (.int .u32) w0 blk off dr wr) ∧ Hid (shiftUp ltInt b r dr = shiftUp ltInt b (p + 1) d2))
                (fun vr _ => b - (intOf vr).toNat)
              case atStart => exact ⟨p + 1, d2, by go_num, Nat.le_refl _, by omega, hdq2, S5, rfl⟩
              case round =>
                clear S5 hdq2
                obtain ⟨r, dr, rfl, hpr, hrb, hdr, S7, HR⟩ := hrel
                by_cases hrlt : r < b
                · obtain ⟨G, hG, hc, hf⟩ := row_facts S7.out R hdr
                  obtain ⟨rm, hrm⟩ : ∃ rm, rm = r - 1 := ⟨_, rfl⟩
                  have er : (r : Int) - 1 = (rm : Int) := by omega
                  have hrl : r < d0.size := by omega
                  have hrml : rm < d0.size := by omega
                  have hrn : r ≠ rm := by omega
                  have HRM : Hid (rm = r - 1) := hrm
                  clear hrm
                  go_wp2_with fail
                  go_big_quiet (first | (go_at_call 40; refine Calls.quiet_of_same (less_u32 _ _ _)))
                  go_wp2
                  · have ht : (!ltInt (G r) (G rm)) = true := by assumption
                    have S5 : Hid (SW (.int .u32) w0 blk off dr (wr.drewN nq)) := S7.out.drewN nq
                    have hdz := hdr
                    have HZ : Hid (dr = if b - p ≥ 2 then shiftUp ltInt b (p + 1) d2 else d2) := by
                      show dr = _
                      rw [if_pos hb2, ← HR.out, shU_stop dr b r rm HRM.out hrlt (by rw [← hG.out r, ← hG.out rm]; exact ht)]
                    have HD3 : Hid (dr = if b - p ≥ 2 then shiftUp ltInt b (p + 1) d2 else d2) := HZ
                    go_roundw
                    case rel =>
                      refine ⟨p, s + 1, dr, rfl, by go_num, by omega, by omega, by omega, hdz, S5, ?_⟩
                      have e := part_step a b (4 - s) i p pm dk d2 dr HI2.out HPM.out (by omega) h50 HD2.out HD3.out
                      have h := HL.out
                      rw [show 5 - s = 4 - s + 1 from by omega, e] at h
                      show _ = _
                      rw [← h, show 5 - (s + 1) = 4 - s from by omega]
                    case measure => simp [intOf]; omega
                  · have ht : (!ltInt (G r) (G rm)) = false := by assumption
                    have HT : Hid (shiftUp ltInt b r dr = shiftUp ltInt b (r + 1) (swp dr r rm)) := shU_go dr b r rm HRM.out hrlt (by rw [← hG.out r, ← hG.out rm]; exact ht)
                    have S5 : Hid (SW (.int .u32) w0 blk off dr (wr.drewN nq)) := S7.out.drewN nq
                    clear hc hf hG ht S7
                    generalize wr.drewN nq = w7 at S5 ⊢
                    have hdq := hdr
                    obtain ⟨G, hG, hc, hf⟩ := row_facts S5.out R hdq
                    obtain ⟨u, hu⟩ := S5.out.c2 R hdq r rm (by omega) (by omega) (.int .u32 (G rm))
                    have S8 : Hid (SW (.int .u32) w0 blk off (swp dr r rm) ((w7.setCell ⟨blk, off + r, none⟩ (.int .u32 (G rm))).setCell ⟨blk, off + rm, none⟩ (.int .u32 (G r))).drew) := by
                      have := S5.out.swapped R r rm (by omega) (by omega)
                      rw [← hG.out r, ← hG.out rm] at this
                      exact this
                    clear S5
                    go_wp2
                    all_goals (try (exfalso; omega))
                    go_region
                    all_goals go_wp2
                    go_roundw
                    case rel => exact ⟨r + 1, swp dr r rm, by go_num, by omega, by omega, by rw [size_swp]; exact hdr, S8, HT.out.symm.trans HR.out⟩
                    case measure => simp [intOf]; omega
                · have HZ : Hid (dr = if b - p ≥ 2 then shiftUp ltInt b (p + 1) d2 else d2) := by
                    show dr = _
                    rw [if_pos hb2, ← HR.out, shU_end dr b r hrlt]
                  have S5 := S7
                  have hdz := hdr
                  go_wp2
                  all_goals (try (exfalso; omega))
                  have HD3 : Hid (dr = if b - p ≥ 2 then shiftUp ltInt b (p + 1) d2 else d2) := HZ
                  go_roundw
                  case rel =>
                    refine ⟨p, s + 1, dr, rfl, by go_num, by omega, by omega, by omega, hdz, S5, ?_⟩
                    have e := part_step a b (4 - s) i p pm dk d2 dr HI2.out HPM.out (by omega) h50 HD2.out HD3.out
                    have h := HL.out
                    rw [show 5 - s = 4 - s + 1 from by omega, e] at h
                    show _ = _
                    rw [← h, show 5 - (s + 1) = 4 - s from by omega]
                  case measure => simp [intOf]; omega
        · have HI2 : Hid (p = scanSorted ltInt dk b i) := (scanS_end dk b p pm hpm (.inl hlt)).symm.trans HU.out
          have hpe : p = b := by omega
          clear hpm
          go_wp2_with fail
          go_big_quiet (fail)
          have S5 : Hid (SW (.int .u32) w0 blk off dk (wr.drewN nq)) := S2.out.drewN nq
          clear S2 HU
          generalize wr.drewN nq = w5 at S5 ⊢
          have hpez : (p : Int) = (b : Int) := by omega
          go_wp2
          all_goals (try (exfalso; omega))
          go_ret
          have e := part_true a b (4 - s) i p dk HI2.out hpe
          have h := HL.out
          rw [show 5 - s = 4 - s + 1 from by omega, e] at h
          rw [HP.out, ← h]
          exact ⟨rfl, S5.out, hds⟩
    · have hs4z : decide ((s : Int) < 5) = false := decide_eq_false (by omega)
      go_wp2
      all_goals (try (exfalso; omega))
      go_ret
      have h := HL.out
      rw [show 5 - s = 0 from by omega] at h
      rw [HP.out, ← h]
      exact ⟨rfl, S1.out, hds⟩
end Go.Proofs.Ytdkbfcogmlghfaa.P

namespace Go.Proofs.Ytdkbfcogmlghfaa.P
open Go.RowKit Go.Sort Go.Shelf Go.Lib
set_option linter.unusedVariables false
set_option linter.unusedSimpArgs false
theorem cnt_drewN {w0 W : World} {blk off c s : Nat} {dk : Array Int} (h : Cnt1 (.int .u32) w0 blk off dk c s W) (n : Nat) : Cnt1 (.int .u32) w0 blk off dk c s (W.drewN n) := by
  have := h.grown n #[]
  rwa [grow_empty] at this
theorem cnt_ne {w0 W : World} {blk off c s : Nat} {d0 dk : Array Int} (h : Cnt1 (.int .u32) w0 blk off dk c s W) (R : Row1 (.int .u32) w0 blk off d0) : blk ≠ c := by
  have h1 := R.hblk
  have h2 := h.2.2.2.1
  omega
set_option maxHeartbeats 4000000 in
set_option maxRecDepth 100000 in
theorem order2_u32 (blk off cap a b c s p q t : Nat) (d0 dk : Array Int) (w0 w : World) (R : Row1 (.int .u32) w0 blk off d0) (hs : dk.size = d0.size) (C : Cnt1 (.int .u32) w0 blk off dk c s w) (ha : a < d0.size) (hb : b < d0.size) (hs9 : s < 1000) (hsz : d0.size < 4611686018427387904)
    (hr : order2 ltInt dk a b s = (p, q, t)) :
    Calls Try.prog 51 #[.slice (some ⟨blk, off, none⟩) d0.size cap, .int .i64 a, .int .i64 b, .pointer (some ⟨c, 0, none⟩)] w fun e w' => e = .returned (.tuple #[.int .i64 p, .int .i64 q]) ∧ Cnt1 (.int .u32) w0 blk off dk c t w' := by
  obtain ⟨G, hG, hc, hf⟩ := row_facts C.1 R hs
  have hcc := C.2.1
  have hcf := C.2.2.1
  have C0 : Hid (Cnt1 (.int .u32) w0 blk off dk c s w) := C
  have HR : Hid (order2 ltInt dk a b s = (p, q, t)) := hr
  clear C hr
  go_enter Try.func51, Try.ntmps51
  go_wp2_with fail
  go_big_quiet (first | (go_at_call 40; refine Calls.quiet_of_same (less_u32 _ _ _)))
  go_wp2
  · have ht : ltInt (G b) (G a) = true := by assumption
    have e := HR.out
    unfold order2 at e
    rw [← hG.out b, ← hG.out a, if_pos ht] at e
    obtain ⟨rfl, e2⟩ := Prod.mk.inj e
    obtain ⟨rfl, rfl⟩ := Prod.mk.inj e2
    go_ret2
    refine ⟨rfl, ?_⟩
    have := (cnt_drewN C0.out nq).bump (s + 1)
    simpa using this
  · have ht : ltInt (G b) (G a) = false := by assumption
    have e := HR.out
    unfold order2 at e
    rw [← hG.out b, ← hG.out a, if_neg (by rw [ht]; simp)] at e
    obtain ⟨rfl, e2⟩ := Prod.mk.inj e
    obtain ⟨rfl, rfl⟩ := Prod.mk.inj e2
    go_ret2
    exact ⟨rfl, cnt_drewN C0.out nq⟩
theorem order2_in (dk : Array Int) (a b s p q t : Nat) (hr : order2 ltInt dk a b s = (p, q, t)) : ((p = a ∧ q = b) ∨ (p = b ∧ q = a)) ∧ t ≤ s + 1 := by
  have h1 := order2_mem ltInt dk a b s
  have h2 := order2_count (lt := ltInt) dk a b s
  rw [hr] at h1 h2
  exact ⟨h1, h2⟩
set_option maxHeartbeats 4000000 in
set_option maxRecDepth 100000 in
theorem median_u32 (blk off cap a b e0 c s m t : Nat) (d0 dk : Array Int) (w0 w : World) (R : Row1 (.int .u32) w0 blk off d0) (hs : dk.size = d0.size) (C : Cnt1 (.int .u32) w0 blk off dk c s w) (ha : a < d0.size) (hb : b < d0.size) (he : e0 < d0.size) (hs9 : s < 900) (hsz : d0.size < 4611686018427387904)
    (hr : median ltInt dk a b e0 s = (m, t)) :
    Calls Try.prog 49 #[.slice (some ⟨blk, off, none⟩) d0.size cap, .int .i64 a, .int .i64 b, .int .i64 e0, .pointer (some ⟨c, 0, none⟩)] w fun e w' => e = .returned (.int .i64 m) ∧ Cnt1 (.int .u32) w0 blk off dk c t w' := by
  obtain ⟨⟨p1, q1, s1⟩, h1⟩ : ∃ r, order2 ltInt dk a b s = r := ⟨_, rfl⟩
  obtain ⟨⟨p2, q2, s2⟩, h2⟩ : ∃ r, order2 ltInt dk q1 e0 s1 = r := ⟨_, rfl⟩
  obtain ⟨⟨p3, q3, s3⟩, h3⟩ : ∃ r, order2 ltInt dk p1 p2 s2 = r := ⟨_, rfl⟩
  have hm : m = q3 ∧ t = s3 := by
    unfold median at hr
    rw [h1] at hr
    simp only [] at hr
    rw [h2] at hr
    simp only [] at hr
    rw [h3] at hr
    exact ⟨(Prod.mk.inj hr).1.symm, (Prod.mk.inj hr).2.symm⟩
  obtain ⟨rfl, rfl⟩ := hm
  clear hr
  obtain ⟨i1, c1⟩ := order2_in dk a b s p1 q1 s1 h1
  obtain ⟨i2, c2⟩ := order2_in dk q1 e0 s1 p2 q2 s2 h2
  have hp1 : p1 < d0.size := by omega
  have hq1 : q1 < d0.size := by omega
  have hp2 : p2 < d0.size := by omega
  have HK1 := Hid.mk' (order2_u32 blk off cap a b c s p1 q1 s1 d0 dk w0 w R hs C ha hb (by omega) hsz h1)
  have HK2 := Hid.mk' (fun w1 C1 => order2_u32 blk off cap q1 e0 c s1 p2 q2 s2 d0 dk w0 w1 R hs C1 hq1 he (by omega) hsz h2)
  have HK3 := Hid.mk' (fun w1 C1 => order2_u32 blk off cap p1 p2 c s2 p3 m t d0 dk w0 w1 R hs C1 hp1 hp2 (by omega) hsz h3)
  clear C i1 i2
  go_enter Try.func49, Try.ntmps49
  go_wp2_with fail
  refine HK1.out.mono ?_
  rintro e w1 ⟨rfl, g1⟩
  have C1 := Hid.mk' g1
  clear g1
  go_wp2_with fail
  refine (HK2.out _ C1.out).mono ?_
  rintro e w2 ⟨rfl, g1⟩
  have C2 := Hid.mk' g1
  clear g1
  go_wp2_with fail
  refine (HK3.out _ C2.out).mono ?_
  rintro e w3 ⟨rfl, g1⟩
  have C3 := Hid.mk' g1
  clear g1
  go_wp2
  go_ret
  exact ⟨rfl, C3.out⟩
set_option maxHeartbeats 4000000 in
set_option maxRecDepth 100000 in
theorem medAdj_u32 (blk off cap a c s m t : Nat) (d0 dk : Array Int) (w0 w : World) (R : Row1 (.int .u32) w0 blk off d0) (hs : dk.size = d0.size) (C : Cnt1 (.int .u32) w0 blk off dk c s w) (ha : 1 ≤ a) (hb : a + 1 < d0.size) (hs9 : s < 900) (hsz : d0.size < 4611686018427387904)
    (hr : medianAdjacent ltInt dk a s = (m, t)) :
    Calls Try.prog 48 #[.slice (some ⟨blk, off, none⟩) d0.size cap, .int .i64 a, .pointer (some ⟨c, 0, none⟩)] w fun e w' => e = .returned (.int .i64 m) ∧ Cnt1 (.int .u32) w0 blk off dk c t w' := by
  obtain ⟨am, ham⟩ : ∃ am, am = a - 1 := ⟨_, rfl⟩
  obtain ⟨ap, hap⟩ : ∃ ap, ap = a + 1 := ⟨_, rfl⟩
  have e1 : (a : Int) - 1 = (am : Int) := by omega
  have e2 : (a : Int) + 1 = (ap : Int) := by omega
  have HK := Hid.mk' (median_u32 blk off cap am a ap c s m t d0 dk w0 w R hs C (by omega) (by omega) (by omega) hs9 hsz (by rw [ham, hap]; exact hr))
  clear C hr ham hap
  go_enter Try.func48, Try.ntmps48
  go_wp2_with fail
  refine HK.out.mono ?_
  rintro e w1 ⟨rfl, g1⟩
  have C1 := Hid.mk' g1
  clear g1
  go_wp2
  go_ret
  exact ⟨rfl, C1.out⟩
end Go.Proofs.Ytdkbfcogmlghfaa.P

namespace Go.Proofs.Ytdkbfcogmlghfaa.P
open Go.RowKit Go.Sort Go.Shelf Go.Lib
set_option linter.unusedVariables false
set_option linter.unusedSimpArgs false
def hintT (t : Nat) : Hint := if t = 0 then .increasing else if t = 12 then .decreasing else .unknown
def hintZ : Hint → Int
  | .unknown => 0
  | .increasing => 1
  | .decreasing => 2
theorem piv_big (d : Array Int) (a b q i' s1 j' s2 k' s3 m t : Nat) (hq : q = (b - a) / 4) (h : 50 ≤ b - a) (h1 : medianAdjacent ltInt d (a + q * 1) 0 = (i', s1)) (h2 : medianAdjacent ltInt d (a + q * 2) s1 = (j', s2)) (h3 : medianAdjacent ltInt d (a + q * 3) s2 = (k', s3)) (h4 : median ltInt d i' j' k' s3 = (m, t)) :
    choosePivot ltInt d a b = (m, hintT t) := by
  subst hq
  unfold choosePivot
  simp only []
  rw [if_pos (by omega), if_pos (by omega), h1]
  simp only []
  rw [h2]
  simp only []
  rw [h3]
  simp only []
  rw [h4]
  rfl
theorem piv_small (d : Array Int) (a b q m t : Nat) (hq : q = (b - a) / 4) (h8 : 8 ≤ b - a) (h : ¬ 50 ≤ b - a) (h4 : median ltInt d (a + q * 1) (a + q * 2) (a + q * 3) 0 = (m, t)) :
    choosePivot ltInt d a b = (m, hintT t) := by
  subst hq
  unfold choosePivot
  simp only []
  rw [if_pos (by omega), if_neg (by omega), h4]
  rfl
theorem adj_in (d : Array Int) (a s m t : Nat) (h : medianAdjacent ltInt d a s = (m, t)) : (m = a - 1 ∨ m = a ∨ m = a + 1) ∧ t ≤ s + 3 := by
  have h1 := medianAdjacent_mem ltInt d a s
  have h2 := medianAdjacent_count (lt := ltInt) d a s
  rw [h] at h1 h2
  exact ⟨h1, h2⟩
set_option maxHeartbeats 8000000 in
set_option maxRecDepth 100000 in
theorem pivot_u32 (blk off cap a b : Nat) (d0 dk : Array Int) (w0 w : World) (R : Row1 (.int .u32) w0 blk off d0) (hs : dk.size = d0.size) (S : SW (.int .u32) w0 blk off dk w) (h8 : 8 ≤ b - a) (hb : b ≤ d0.size) (hsz : d0.size < 4611686018427387904) :
    Calls Try.prog 37 #[.slice (some ⟨blk, off, none⟩) d0.size cap, .int .i64 a, .int .i64 b] w fun e w' => e = .returned (.tuple #[.int .i64 (choosePivot ltInt dk a b).1, .int .i64 (hintZ (choosePivot ltInt dk a b).2)]) ∧ SW (.int .u32) w0 blk off dk w' := by
  obtain ⟨l, hl⟩ : ∃ l, l = b - a := ⟨_, rfl⟩
  obtain ⟨q, hq⟩ : ∃ q, q = l / 4 := ⟨_, rfl⟩
  have el : (b : Int) - (a : Int) = (l : Int) := by omega
  have eq4 : (l : Int).tdiv 4 = (q : Int) := by rw [Int.tdiv_eq_ediv_of_nonneg (by omega)]; omega
  obtain ⟨i, hi⟩ : ∃ i, i = a + q * 1 := ⟨_, rfl⟩
  obtain ⟨j, hj⟩ : ∃ j, j = a + q * 2 := ⟨_, rfl⟩
  obtain ⟨k, hk⟩ : ∃ k, k = a + q * 3 := ⟨_, rfl⟩
  have ei : (a : Int) + (q : Int) = (i : Int) := by omega
  have ej : (a : Int) + (q : Int) * 2 = (j : Int) := by omega
  have ek : (a : Int) + (q : Int) * 3 = (k : Int) := by omega
  have hq2 : 2 ≤ q := by omega
  have hkb : k + 1 < b := by omega
  have hij : i < j ∧ j < k ∧ 1 ≤ i ∧ 1 ≤ j ∧ 1 ≤ k := by omega
  have hl8 : (8 : Int) ≤ (l : Int) := by omega
  have C0 := Hid.mk' (Cnt1.start S 3)
  have HQ : Hid (q = (b - a) / 4 ∧ l = b - a ∧ i = a + q * 1 ∧ j = a + q * 2 ∧ k = a + q * 3) := ⟨by rw [hq, hl], hl, hi, hj, hk⟩
  have hql : q ≤ l := by omega
  have hll : l < 4611686018427387904 := by omega
  clear hl hq hi hj hk
  obtain ⟨h1, h2, h3, h4, h5⟩ := hij
  obtain ⟨c, hc⟩ : ∃ c, c = w.heap.size := ⟨_, rfl⟩
  by_cases h50 : 50 ≤ b - a
  · obtain ⟨⟨i', s1⟩, r1⟩ : ∃ r, medianAdjacent ltInt dk i 0 = r := ⟨_, rfl⟩
    obtain ⟨⟨j', s2⟩, r2⟩ : ∃ r, medianAdjacent ltInt dk j s1 = r := ⟨_, rfl⟩
    obtain ⟨⟨k', s3⟩, r3⟩ : ∃ r, medianAdjacent ltInt dk k s2 = r := ⟨_, rfl⟩
    obtain ⟨⟨m, t⟩, r4⟩ : ∃ r, median ltInt dk i' j' k' s3 = r := ⟨_, rfl⟩
    obtain ⟨n1, c1⟩ := adj_in dk i 0 i' s1 r1
    obtain ⟨n2, c2⟩ := adj_in dk j s1 j' s2 r2
    obtain ⟨n3, c3⟩ := adj_in dk k s2 k' s3 r3
    have HCH : Hid (choosePivot ltInt dk a b = (m, hintT t)) := by
      obtain ⟨q1, q2, q3, q4, q5⟩ := HQ.out
      exact piv_big dk a b q i' s1 j' s2 k' s3 m t q1 h50 (by rw [← q3]; exact r1) (by rw [← q4]; exact r2) (by rw [← q5]; exact r3) r4
    have HK1 := Hid.mk' (fun w1 C1 => medAdj_u32 blk off cap i w.heap.size 0 i' s1 d0 dk w0 w1 R hs C1 (by omega) (by omega) (by omega) hsz r1)
    have HK2 := Hid.mk' (fun w1 C1 => medAdj_u32 blk off cap j w.heap.size s1 j' s2 d0 dk w0 w1 R hs C1 (by omega) (by omega) (by omega) hsz r2)
    have HK3 := Hid.mk' (fun w1 C1 => medAdj_u32 blk off cap k w.heap.size s2 k' s3 d0 dk w0 w1 R hs C1 (by omega) (by omega) (by omega) hsz r3)
    have HK4 := Hid.mk' (fun w1 C1 => median_u32 blk off cap i' j' k' w.heap.size s3 m t d0 dk w0 w1 R hs C1 (by omega) (by omega) (by omega) (by omega) hsz r4)
    have hl50 : (50 : Int) ≤ (l : Int) := by have := HQ.out.2.1; omega
    clear n1 n2 n3 c1 c2 c3 S
    go_enter Try.func37, Try.ntmps37
    go_wp2_with fail
    all_goals (try (exfalso; omega))
    refine (HK1.out _ C0.out).mono ?_
    rintro e w1 ⟨rfl, g1⟩
    have C1 := Hid.mk' g1
    clear g1 C0
    go_wp2_with fail
    refine (HK2.out _ C1.out).mono ?_
    rintro e w2 ⟨rfl, g1⟩
    have C2 := Hid.mk' g1
    clear g1
    go_wp2_with fail
    refine (HK3.out _ C2.out).mono ?_
    rintro e w3 ⟨rfl, g1⟩
    have C3 := Hid.mk' g1
    clear g1
    go_wp2_with fail
    refine (HK4.out _ C3.out).mono ?_
    rintro e w4 ⟨rfl, g1⟩
    have C4 := Hid.mk' g1
    clear g1
    have hcc := C4.out.2.1
    have hcf := C4.out.2.2.1
    by_cases ht0 : t = 0
    · subst ht0
      go_wp2
      go_ret2
      rw [HCH.out]
      exact ⟨rfl, C4.out.1⟩
    · by_cases ht1 : t = 12
      · subst ht1
        go_wp2
        go_ret2
        rw [HCH.out]
        exact ⟨rfl, C4.out.1⟩
      · have t0z : ¬ (t : Int) = 0 := by omega
        have t1z : ¬ (t : Int) = 12 := by omega
        go_wp2
        all_goals (try (exfalso; omega))
        go_ret2
        rw [HCH.out, show hintT t = .unknown from by unfold hintT; rw [if_neg ht0, if_neg ht1]]
        exact ⟨rfl, C4.out.1⟩
  · obtain ⟨⟨m, t⟩, r4⟩ : ∃ r, median ltInt dk i j k 0 = r := ⟨_, rfl⟩
    have HCH : Hid (choosePivot ltInt dk a b = (m, hintT t)) := by
      obtain ⟨q1, q2, q3, q4, q5⟩ := HQ.out
      exact piv_small dk a b q m t q1 h8 h50 (by rw [← q3, ← q4, ← q5]; exact r4)
    have HK4 := Hid.mk' (fun w1 C1 => median_u32 blk off cap i j k w.heap.size 0 m t d0 dk w0 w1 R hs C1 (by omega) (by omega) (by omega) (by omega) hsz r4)
    have hl50 : ¬ (50 : Int) ≤ (l : Int) := by have := HQ.out.2.1; omega
    clear S
    go_enter Try.func37, Try.ntmps37
    go_wp2_with fail
    all_goals (try (exfalso; omega))
    refine (HK4.out _ C0.out).mono ?_
    rintro e w4 ⟨rfl, g1⟩
    have C4 := Hid.mk' g1
    clear g1 C0
    have hcc := C4.out.2.1
    have hcf := C4.out.2.2.1
    by_cases ht0 : t = 0
    · subst ht0
      go_wp2
      go_ret2
      rw [HCH.out]
      exact ⟨rfl, C4.out.1⟩
    · by_cases ht1 : t = 12
      · subst ht1
        go_wp2
        go_ret2
        rw [HCH.out]
        exact ⟨rfl, C4.out.1⟩
      · have t0z : ¬ (t : Int) = 0 := by omega
        have t1z : ¬ (t : Int) = 12 := by omega
        go_wp2
        all_goals (try (exfalso; omega))
        go_ret2
        rw [HCH.out, show hintT t = .unknown from by unfold hintT; rw [if_neg ht0, if_neg ht1]]
        exact ⟨rfl, C4.out.1⟩
end Go.Proofs.Ytdkbfcogmlghfaa.P

namespace Go.Proofs.Ytdkbfcogmlghfaa.P
open Go.RowKit Go.Sort Go.Shelf Go.Lib
set_option linter.unusedVariables false
set_option linter.unusedSimpArgs false
def lay_next_ren : Go.Shelf.Ren := ⟨fun | 48 => 47 | n => n, fun | 76 => 80 | 55 => 72 | 0 => 0 | 66 => 73 | 39 => 57 | n => n, fun n => n⟩
theorem lay_next : SlLaysF0.n48 Try.prog lay_next_ren := {
  mixed := by kernel_rfl,
  f48 := Try.func47.trans (congrArg some (by kernel_rfl)),
  t0 := Try.underlying0,
  a0 := Try.isAgg0,
  z0 := Try.sizeOf0,
  v0 := Try.zeroValue0,
  t39 := Try.underlying57,
  a39 := Try.isAgg57,
  z39 := Try.sizeOf57,
  v39 := Try.zeroValue57,
  t55 := Try.underlying72,
  a55 := Try.isAgg72,
  z55 := Try.sizeOf72,
  v55 := Try.zeroValue72,
  t66 := Try.underlying73,
  a66 := Try.isAgg73,
  z66 := Try.sizeOf73,
  v66 := Try.zeroValue73,
  t76 := Try.underlying80,
  a76 := Try.isAgg80,
  z76 := Try.sizeOf80,
  v76 := Try.zeroValue80 }

def lay_npot_ren : Go.Shelf.Ren := ⟨fun | 47 => 46 | 15 => 31 | 28 => 43 | 29 => 44 | n => n, fun | 3 => 3 | 39 => 57 | 53 => 22 | 55 => 72 | 4 => 4 | 5 => 5 | 9 => 9 | n => n, fun n => n⟩
theorem lay_npot : SlLaysF0.n47 Try.prog lay_npot_ren := {
  mixed := by kernel_rfl,
  f15 := Try.func31.trans (congrArg some (by kernel_rfl)),
  f28 := Try.func43.trans (congrArg some (by kernel_rfl)),
  f29 := Try.func44.trans (congrArg some (by kernel_rfl)),
  f47 := Try.func46.trans (congrArg some (by kernel_rfl)),
  t3 := Try.underlying3,
  a3 := Try.isAgg3,
  z3 := Try.sizeOf3,
  v3 := Try.zeroValue3,
  t4 := Try.underlying4,
  a4 := Try.isAgg4,
  z4 := Try.sizeOf4,
  v4 := Try.zeroValue4,
  t5 := Try.underlying5,
  a5 := Try.isAgg5,
  z5 := Try.sizeOf5,
  v5 := Try.zeroValue5,
  t9 := Try.underlying9,
  a9 := Try.isAgg9,
  z9 := Try.sizeOf9,
  v9 := Try.zeroValue9,
  t39 := Try.underlying57,
  a39 := Try.isAgg57,
  z39 := Try.sizeOf57,
  v39 := Try.zeroValue57,
  t53 := Try.underlying22,
  a53 := Try.isAgg22,
  z53 := Try.sizeOf22,
  v53 := Try.zeroValue22,
  t55 := Try.underlying72,
  a55 := Try.isAgg72,
  z55 := Try.sizeOf72,
  v55 := Try.zeroValue72 }

/-- A world of the sort's with a number of 64 bits in a cell of its own. -/
def Rnd (w0 : World) (blk off : Nat) (dk : Array Int) (c X : Nat) (W : World) : Prop :=
  SW (.int .u32) w0 blk off dk W ∧ W.cell? ⟨c, 0, none⟩ = some (.int .u64 (X : Int)) ∧ W.frozen? ⟨c, 0, none⟩ = false ∧ w0.heap.size ≤ c
theorem Rnd.next {w0 W : World} {blk off c X : Nat} {dk : Array Int} (h : Rnd w0 blk off dk c X W) (Y : Nat) : Rnd w0 blk off dk c Y ((W.setCell ⟨c, 0, none⟩ (.int .u64 (Y : Int))).drewN 3) :=
  ⟨(h.1.setCell_new c 0 _ h.2.2.2).drewN 3, by show (W.setCell ⟨c, 0, none⟩ (.int .u64 (Y : Int))).cell? _ = _; exact World.cell?_setCell_same' _ _ _ (by rw [h.2.1]; rfl), by show (W.setCell ⟨c, 0, none⟩ (.int .u64 (Y : Int))).frozen? _ = _; rw [World.frozen?_setCell]; exact h.2.2.1, h.2.2.2⟩
theorem Rnd.swap {w0 W : World} {blk off c X : Nat} {d0 dk : Array Int} (h : Rnd w0 blk off dk c X W) (R : Row1 (.int .u32) w0 blk off d0) (i j : Nat) (hi : i < dk.size) (hj : j < dk.size) :
    Rnd w0 blk off (swp dk i j) c X ((W.setCell ⟨blk, off + i, none⟩ (.int .u32 dk[j]!)).setCell ⟨blk, off + j, none⟩ (.int .u32 dk[i]!)).drew := by
  have hne : c ≠ blk := by have h1 := R.hblk; have h2 := h.2.2.2; omega
  have hk := box_kept_swap1 hne h.2.1 h.2.2.1 (off + i) (off + j) (.int .u32 dk[j]!) (.int .u32 dk[i]!)
  exact ⟨h.1.swapped R i j hi hj, hk.1, hk.2, h.2.2.2⟩
set_option maxHeartbeats 8000000 in
set_option maxRecDepth 100000 in
theorem break_u32 (blk off cap a L : Nat) (d0 d : Array Int) (w0 w : World) (R : Row1 (.int .u32) w0 blk off d0) (hs : d.size = d0.size) (S : SW (.int .u32) w0 blk off d w) (h8 : 8 ≤ L) (hb : a + L ≤ d0.size) (hsz : d0.size < 4611686018427387904) :
    Calls Try.prog 36 #[.slice (some ⟨blk, off, none⟩) d0.size cap, .int .i64 a, .int .i64 ((a + L : Nat) : Int)] w fun e w' => e = .returned (.tuple #[]) ∧ SW (.int .u32) w0 blk off (breakPatterns d a (a + L)) w' := by
  obtain ⟨b, hb0⟩ : ∃ b, b = a + L := ⟨_, rfl⟩
  rw [← hb0]
  obtain ⟨M, hM⟩ : ∃ M : Nat, M = 1 <<< bitsLen L := ⟨_, rfl⟩
  have hM1 : 1 ≤ M := by rw [hM, Nat.one_shiftLeft]; exact Nat.two_pow_pos _
  have hM2 : M ≤ 2 * L := by rw [hM, Nat.one_shiftLeft]; exact two_pow_bitsLen_le (by omega)
  obtain ⟨q, hq⟩ : ∃ q, q = L / 4 := ⟨_, rfl⟩
  obtain ⟨i0, hi0⟩ : ∃ i0, i0 = a + q * 2 - 1 := ⟨_, rfl⟩
  obtain ⟨i2, hi2⟩ : ∃ i2, i2 = i0 + 2 := ⟨_, rfl⟩
  have HB : Hid (breakPatterns d a b = bpRest a L M i0 3 0 (UInt64.ofNat L, d)) := by
    show breakPatterns d a b = _
    rw [hb0, breakPatterns_eq d a L h8, hM, hi0, hq]
  have HNP := Hid.mk' (fun w => AnyF.nextPowerOfTwo (P := Try.prog) lay_npot L (by omega) w)
  rw [← hM] at HNP
  have eL : (b : Int) - (a : Int) = (L : Int) := by omega
  have eq4 : (L : Int).tdiv 4 = (q : Int) := by rw [Int.tdiv_eq_ediv_of_nonneg (by omega)]; omega
  have e0 : (a : Int) + (q : Int) * 2 - 1 = (i0 : Int) := by omega
  have e2 : (a : Int) + (q : Int) * 2 + 1 = (i2 : Int) := by omega
  have hL8 : (8 : Int) ≤ (L : Int) := by omega
  have hLl : L < 4611686018427387904 := by omega
  have hi2l : i2 < b := by omega
  have hql : q ≤ L := by omega
  have HI2 : Hid (i2 = i0 + 2) := hi2
  have HBB : Hid (b = a + L) := hb0
  have hbl : b ≤ d0.size := by omega
  have hLb : L ≤ b := by omega
  have hab : a ≤ b := by omega
  clear hM hq hi0 hi2 hb hb0
  have Q0 : Hid (Rnd w0 blk off d w.heap.size L (w.alloc (.cells #[.int .u64 (L : Int)] 73))) := ⟨S.alloc _, by simp, by simp, S.le⟩
  clear S
  go_enter Try.func36, Try.ntmps36
  go_wp2_with fail
  refine (HNP.out _).mono ?_
  rintro e w1 ⟨rfl, rfl⟩
  go_wp2
  obtain ⟨c, hcc⟩ : ∃ c, c = w.heap.size := ⟨_, rfl⟩
  rw [← hcc] at Q0
  go_loopw [9, 10] (fun v9 v10 wr => ∃ (x t : Nat) (r : UInt64) (dk : Array Int), v9 = .int .i64 x ∧ Hid (x = i0 + t) ∧ t ≤ 3 ∧ x ≤ i2 + 1 ∧ dk.size = d0.size ∧ Hid (Rnd w0 blk off dk c r.toNat wr) ∧ Hid (bpRest a L M i0 (3 - t) t (r, dk) = bpRest a L M i0 3 0 (UInt64.ofNat L, d)))
    (fun v9 v10 _ => i2 + 1 - (intOf v9).toNat)
  case atStart => exact ⟨i0, 0, UInt64.ofNat L, d, rfl, rfl, by omega, by have := HI2.out; omega, hs, by rw [show (UInt64.ofNat L).toNat = L from by simp; omega]; exact Q0, rfl⟩
  case round =>
    clear Q0 hs
    obtain ⟨x, t, r, dk, rfl, HX, ht3, hxi, hds, Q1, HR⟩ := hrel
    by_cases hx : x ≤ i2
    · obtain ⟨X, hX⟩ : ∃ X : Nat, X = r.toNat := ⟨_, rfl⟩
      have lX : X < 18446744073709551616 := by rw [hX]; exact r.toNat_lt
      obtain ⟨Y, hY⟩ : ∃ Y : Nat, Y = xorNextN X := ⟨_, rfl⟩
      have lY : Y < 18446744073709551616 := by rw [hY]; exact xorNextN_lt X lX
      obtain ⟨O, hO⟩ : ∃ O : Nat, O = Y &&& (M - 1) := ⟨_, rfl⟩
      have lO : O ≤ M - 1 := by rw [hO]; exact Nat.and_le_right
      have eAnd : bits .and .u64 (Y : Int) ((M : Int) - 1) = (O : Int) := by
        rw [show ((M : Int) - 1) = ((M - 1 : Nat) : Int) by omega, bits_and_u64_nat _ _ lY (by omega), hO]
      have HN : Hid (Y = (xorNext r).toNat ∧ O = (xorNext r).toNat &&& (M - 1)) := by
        have e : Y = (xorNext r).toNat := by rw [hY, hX, xorNext_toNat]
        exact ⟨e, by rw [hO, e]⟩
      have hcB : wr.cell? ⟨c, 0, none⟩ = some (.int .u64 (X : Int)) := by rw [hX]; exact Q1.out.2.1
      have hNext := AnyF.xorshift_Next (P := Try.prog) lay_next c 0 X lX wr hcB Q1.out.2.2.1
      rw [← hY] at hNext
      have HNX := Hid.mk' hNext
      have Q2 : Hid (Rnd w0 blk off dk c Y ((wr.setCell ⟨c, 0, none⟩ (.int .u64 (Y : Int))).drewN 3)) := Q1.out.next Y
      clear hNext hX hY hO hcB Q1
      have hxl : x < d0.size := by omega
      go_wp2_with fail
      rw [← hcc]
      refine HNX.out.mono ?_
      rintro e w2 ⟨rfl, rfl⟩
      generalize (wr.setCell ⟨c, 0, none⟩ (.int .u64 (Y : Int))).drewN 3 = w2 at Q2 ⊢
      obtain ⟨G, hG, hc, hf⟩ := row_facts Q2.out.1 R hds
      go_wp2
      · have hLO : L ≤ O := by omega
        obtain ⟨p, hp⟩ : ∃ p, p = a + (O - L) := ⟨_, rfl⟩
        have ep : (a : Int) + ((O : Int) - (L : Int)) = (p : Int) := by omega
        have hpl : p < d0.size := by have := HBB.out; omega
        have HP : Hid (p = a + (O - L)) := hp
        clear hp
        obtain ⟨u, hu⟩ := Q2.out.1.c2 R hds x p (by omega) (by omega) (.int .u32 (G p))
        go_region
        all_goals go_wp2
        go_roundw
        case rel =>
          have ht : t < 3 := by have h1 := HX.out; have h2 := HI2.out; omega
          refine ⟨x + 1, t + 1, xorNext r, swp dk x p, by go_num, by have := HX.out; exact (by omega : x + 1 = i0 + (t + 1)), by omega, by omega, by rw [size_swp]; exact hds, ?_, ?_⟩
          · rw [← HN.out.1]
            have := Q2.out.swap R x p (by omega) (by omega)
            rw [← hG.out x, ← hG.out p] at this
            exact this
          · show _ = _
            rw [← HR.out, bp_step a L M i0 t r dk (O - L) ht (by rw [← HN.out.2, if_pos hLO]), ← HX.out, ← HP.out]
        case measure => simp [intOf]; omega
      · have hLO : ¬ L ≤ O := by omega
        obtain ⟨p, hp⟩ : ∃ p, p = a + O := ⟨_, rfl⟩
        have ep : (a : Int) + (O : Int) = (p : Int) := by omega
        have hpl : p < d0.size := by have := HBB.out; omega
        have HP : Hid (p = a + O) := hp
        clear hp
        obtain ⟨u, hu⟩ := Q2.out.1.c2 R hds x p (by omega) (by omega) (.int .u32 (G p))
        go_region
        all_goals go_wp2
        go_roundw
        case rel =>
          have ht : t < 3 := by have h1 := HX.out; have h2 := HI2.out; omega
          refine ⟨x + 1, t + 1, xorNext r, swp dk x p, by go_num, by have := HX.out; exact (by omega : x + 1 = i0 + (t + 1)), by omega, by omega, by rw [size_swp]; exact hds, ?_, ?_⟩
          · rw [← HN.out.1]
            have := Q2.out.swap R x p (by omega) (by omega)
            rw [← hG.out x, ← hG.out p] at this
            exact this
          · show _ = _
            rw [← HR.out, bp_step a L M i0 t r dk O ht (by rw [← HN.out.2, if_neg hLO]), ← HX.out, ← HP.out]
        case measure => simp [intOf]; omega
    · go_wp2
      go_end0
      have ht : t = 3 := by have h1 := HX.out; have h2 := HI2.out; omega
      have h := HR.out
      rw [ht] at h
      rw [HB.out, ← h]
      exact ⟨rfl, Q1.out.1⟩
end Go.Proofs.Ytdkbfcogmlghfaa.P

namespace Go.Proofs.Ytdkbfcogmlghfaa.P
open Go.RowKit Go.Sort Go.Shelf Go.Lib
set_option linter.unusedVariables false
set_option linter.unusedSimpArgs false
/-! Go's own sort at uint32: its loop and its recursion (after the kit's walk of the same code at int). -/
theorem hintZ_eq (h : Hint) : hintZ h = hintCode h := by cases h <;> rfl
theorem hintC_two {h : Hint} (e : hintCode h = 2) : h = .decreasing := by cases h <;> simp [hintCode] at e ⊢
theorem eighthU {x y p q : Nat} (h1 : q ≤ p) (h2 : y ≤ x) : decide (((x : Int) - (y : Int)) / 8 ≤ (p : Int) - (q : Int)) = decide (p - q ≥ (x - y) / 8) :=
  decide_eq_decide.2 ⟨fun h => by omega, fun h => by omega⟩
set_option maxHeartbeats 6400000 in
set_option maxRecDepth 1000000 in
theorem pdq_u32 (blk off cap : Nat) (d0 : Array Int) (w0 : World) (R : Row1 (.int .u32) w0 blk off d0) (hsz : d0.size < 4611686018427387904) : ∀ (N a b limit : Nat) (d : Array Int) (w : World), b - a < N → SW (.int .u32) w0 blk off d w → d.size = d0.size → a ≤ b → b ≤ d0.size → limit < 4611686018427387904 → Go.Sort.Below ltInt a b d →
    Calls Try.prog 30 #[.slice (some ⟨blk, off, none⟩) d0.size cap, .int .i64 a, .int .i64 b, .int .i64 limit] w fun e w' => e = .returned (.tuple #[]) ∧ SW (.int .u32) w0 blk off (pdq ltInt d a b limit true true) w' := by
  intro N
  induction N with
  | zero => intro _ _ _ _ _ h; exact absurd h (Nat.not_lt_zero _)
  | succ N ih =>
    intro a b limit d w hN hS0 hdd hab hb hlimit hBel0
    go_enter Try.func30, Try.ntmps30
    go_wp2
    go_loopg [1, 2, 3, 8, 9] (b - a) (fun k s1 s2 s3 s8 s9 wr => ∃ (a' b' lim : Nat) (wb wp : Bool) (dk : Array Int), s1 = .int .i64 a' ∧ s2 = .int .i64 b' ∧ s3 = .int .i64 lim ∧ s8 = .bool wb ∧ s9 = .bool wp ∧
      a' ≤ b' ∧ b' ≤ d0.size ∧ b' - a' ≤ k ∧ k ≤ b - a ∧ lim ≤ limit ∧ dk.size = d0.size ∧ Go.Sort.Below ltInt a' b' dk ∧ SW (.int .u32) w0 blk off dk wr ∧ pdq ltInt dk a' b' lim wb wp = pdq ltInt d a b limit true true)
    case atStart => exact ⟨a, b, limit, true, true, d, rfl, rfl, rfl, rfl, rfl, hab, hb, Nat.le_refl _, Nat.le_refl _, Nat.le_refl _, hdd, hBel0, hS0, rfl⟩
    case round =>
      obtain ⟨a', b', lim, wb, wp, dk, rfl, rfl, rfl, rfl, rfl, hab', hb', hk, hkN, hlim, hds, hBel, hAt, heq⟩ := hrel
      have A : Aside (pdq ltInt dk a' b' lim wb wp = pdq ltInt d a b limit true true) := heq
      clear heq
      by_cases h12 : b' - a' ≤ 12
      · -- 'if length <= maxInsertion'
        have h12z : (b' : Int) - (a' : Int) ≤ 12 := by omega
        have hc := insertion_u32 blk off cap a' b' d0 dk w0 wr R hds hAt hb' hsz (by omega)
        go_wp2_with (go_at_call 34; refine hc.mono ?_; rintro e w1 ⟨rfl, hw1⟩)
        (try simp only [Exit.inBlock, Exit.then]); refine bodyPost_ret (results_none rfl _ _ _) rfl ?_
        refine ⟨rfl, ?_⟩
        rw [← A.out, pdq_small h12]
        exact hw1
      · have h12z : ¬ ((b' : Int) - (a' : Int) ≤ 12) := by omega
        by_cases hl0 : lim = 0
        · -- 'if limit == 0'
          subst hl0
          have hc := heap_u32 blk off cap a' b' d0 dk w0 wr R hds hAt (by omega) hb' hsz
          go_wp2_with (go_at_call 35; refine hc.mono ?_; rintro e w1 ⟨rfl, hw1⟩)
          (try simp only [Exit.inBlock, Exit.then]); refine bodyPost_ret (results_none rfl _ _ _) rfl ?_
          refine ⟨rfl, ?_⟩
          rw [← A.out, pdq_heap h12 rfl]
          exact hw1
        · have hl0z : ¬ ((lim : Int) = 0) := by omega
          obtain ⟨s1, B1, hc1, s2, B2, hpv, s3, B3⟩ := rd_facts (limit := lim) (wb := wb) (wp := wp) swo_ltInt partialInsertionSort_holds reverseRange_holds (show a' < b' by omega) (show b' ≤ dk.size by omega) hBel
          go_upto_if 35 with fail
          go_cut [3] from 19 (fun s3 wc => s3 = .int .i64 (rd ltInt dk a' b' lim wb wp).lim ∧ SW (.int .u32) w0 blk off (rd ltInt dk a' b' lim wb wp).d1 wc)
          case first =>
            cases wb
            · obtain ⟨L, hL⟩ : ∃ L, b' = a' + L := ⟨b' - a', by omega⟩
              have hc := break_u32 blk off cap a' L d0 dk w0 wr R hds hAt (by omega) (by omega) hsz
              rw [← hL] at hc
              clear hL
              go_wp2_with (go_at_call 36; refine hc.mono ?_; rintro e w1 ⟨rfl, hw1⟩)
              go_meet
              case rel =>
                refine ⟨?_, hw1⟩
                show Value.int .i64 ((lim : Int) - 1) = Value.int .i64 ((lim - 1 : Nat) : Int)
                congr 1
                omega
            · go_wp2_with fail
              go_meet
              case rel => exact ⟨rfl, hAt⟩
          case rest =>
            obtain ⟨rfl, hAt1⟩ := hcut
            have hc17 := pivot_u32 blk off cap a' b' d0 (rd ltInt dk a' b' lim wb wp).d1 w0 wc R (s1.trans hds) hAt1 (by omega) hb' hsz
            rw [hintZ_eq] at hc17
            rw [← rd_c] at hc17
            go_upto_if 50 with (go_at_call 37; refine hc17.mono ?_; rintro e w2 ⟨rfl, hAt2⟩)
            go_cut [11, 12] from 19 (fun s11 s12 wc => s11 = .int .i64 (rd ltInt dk a' b' lim wb wp).pivot ∧ s12 = .int .i64 (hintCode (rd ltInt dk a' b' lim wb wp).hint) ∧ SW (.int .u32) w0 blk off (rd ltInt dk a' b' lim wb wp).d2 wc)
            case first =>
              by_cases hh : (rd ltInt dk a' b' lim wb wp).c.2 = .decreasing
              · have hcode : hintCode (rd ltInt dk a' b' lim wb wp).c.2 = 2 := by rw [hh]; rfl
                obtain ⟨e2, epv, eht⟩ := rd_dec hh
                have hc18 := reverse_u32 blk off cap a' b' d0 (rd ltInt dk a' b' lim wb wp).d1 w0 w2 R (s1.trans hds) hAt2 (by omega) hb' hsz
                go_wp2_with (go_at_call 38; refine hc18.mono ?_; rintro e w3 ⟨rfl, hw3⟩)
                go_meet
                case rel =>
                  refine ⟨?_, by rw [eht]; rfl, by rw [e2]; exact hw3⟩
                  rw [epv]
                  congr 1
                  omega
              · have hcode : ¬ (hintCode (rd ltInt dk a' b' lim wb wp).c.2 = 2) := fun h => hh (hintC_two h)
                obtain ⟨e2, epv, eht⟩ := rd_not hh
                go_wp2_with fail
                go_meet
                case rel => exact ⟨by rw [epv], by rw [eht], by rw [e2]; exact hAt2⟩
            case rest =>
              obtain ⟨rfl, rfl, hAt3⟩ := hcut
              go_upto_region 15 with fail
              go_cut [12, 68] from 19 (fun s12 s68 wx => s12 = .int .i64 (hintCode (rd ltInt dk a' b' lim wb wp).hint) ∧ s68 = .bool (wb && wp && decide ((rd ltInt dk a' b' lim wb wp).hint = .increasing)) ∧ wx = wc)
              case first =>
                cases wb <;> cases wp <;> cases hh3 : (rd ltInt dk a' b' lim _ _).hint <;>
                  (have hcode3 := congrArg hintCode hh3
                   simp only [hintCode] at hcode3
                   go_wp2_with fail
                   go_meet
                   exact ⟨by simp [hh3, hintCode], by simp [hh3, hintCode], rfl⟩)
              case rest =>
                obtain ⟨rfl, rfl, rfl⟩ := hcut
                go_upto_if 68 with fail
                go_cut [] from 19 (fun wx => (rd ltInt dk a' b' lim wb wp).pi.2 = false ∧ SW (.int .u32) w0 blk off (rd ltInt dk a' b' lim wb wp).pi.1 wx)
                case first =>
                  cases h68 : (wb && wp && decide ((rd ltInt dk a' b' lim wb wp).hint = .increasing))
                  · have epi := rd_pi_no h68
                    go_wp2_with fail
                    go_meet
                    case rel => exact ⟨by rw [epi], by rw [epi]; exact hAt3⟩
                  · have epi := rd_pi_yes h68
                    have hc19 := partial_u32 blk off cap a' b' d0 (rd ltInt dk a' b' lim wb wp).d2 w0 wc R (s2.trans hds) hAt3 (by omega) hb' hsz
                    rw [← epi] at hc19
                    go_wp2_with (go_at_call 39; refine hc19.mono ?_; rintro e w4 ⟨rfl, hw4, hw4s⟩)
                    all_goals first
                      | (have hp2 : (rd ltInt dk a' b' lim wb wp).pi.2 = false := by rw [epi]; assumption
                         go_meet
                         exact ⟨hp2, hw4⟩)
                      | (have hp2 : (rd ltInt dk a' b' lim wb wp).pi.2 = true := by rw [epi]; assumption
                         (try simp only [Exit.inBlock, Exit.then]); refine bodyPost_ret (results_none rfl _ _ _) rfl ?_
                         refine ⟨rfl, ?_⟩
                         rw [← A.out, pdq_done h12 hl0 hp2]
                         exact hw4)
                case rest =>
                  obtain ⟨hp2, hAt5⟩ := hcut
                  have hcw : ∀ t, t < d0.size → wc.cell? ⟨blk, off + t, none⟩ = some (.int .u32 (rd ltInt dk a' b' lim wb wp).pi.1[t]!) := fun t ht => hAt5.c1 R (s3.trans hds) t (by omega)
                  have hfw : ∀ t, t < d0.size → wc.frozen? ⟨blk, off + t, none⟩ = false := fun t ht => hAt5.f1 R (s3.trans hds) t (by omega)
                  go_upto_region 17 with fail
                  go_cut [87] from 19 (fun s87 wx => s87 = .bool (decide (a' > 0) && !ltInt (rd ltInt dk a' b' lim wb wp).pi.1[a' - 1]! (rd ltInt dk a' b' lim wb wp).pi.1[(rd ltInt dk a' b' lim wb wp).pivot]!) ∧ SW (.int .u32) w0 blk off (rd ltInt dk a' b' lim wb wp).pi.1 wx)
                  case first =>
                    rcases Nat.eq_zero_or_pos a' with ha0 | ha0
                    · have ha0z : decide ((a' : Int) > 0) = false := decide_eq_false (by omega)
                      go_big_quiet (first | (go_at_call 40; refine Calls.quiet_of_same (less_u32 _ _ _)))
                      go_wp2_with fail
                      go_meet
                      case rel => exact ⟨by simp [ha0], hAt5.drewN nq⟩
                    · have ha0z : (a' : Int) > 0 := by omega
                      go_big_quiet (first | (go_at_call 40; refine Calls.quiet_of_same (less_u32 _ _ _)))
                      go_wp2_with fail
                      go_meet
                      case rel => exact ⟨by simp [ha0], hAt5.drewN nq⟩
                  case rest =>
                    obtain ⟨rfl, hAt6⟩ := hcut
                    clear hcw hfw
                    cases h87 : (decide (a' > 0) && !ltInt (rd ltInt dk a' b' lim wb wp).pi.1[a' - 1]! (rd ltInt dk a' b' lim wb wp).pi.1[(rd ltInt dk a' b' lim wb wp).pivot]!)
                    · -- ████ 'mid, alreadyPartitioned := partitionOrdered(..)'; THE SMALLER SIDE BY A CALL OF ITSELF, the other by the next round
                      obtain ⟨mid, ap, d4, hx⟩ : ∃ mid ap d4, Sort.partition ltInt (rd ltInt dk a' b' lim wb wp).pi.1 a' b' (rd ltInt dk a' b' lim wb wp).pivot = (mid, ap, d4) := ⟨(Sort.partition ltInt (rd ltInt dk a' b' lim wb wp).pi.1 a' b' (rd ltInt dk a' b' lim wb wp).pivot).1, (Sort.partition ltInt (rd ltInt dk a' b' lim wb wp).pi.1 a' b' (rd ltInt dk a' b' lim wb wp).pivot).2.1, (Sort.partition ltInt (rd ltInt dk a' b' lim wb wp).pi.1 a' b' (rd ltInt dk a' b' lim wb wp).pivot).2.2, rfl⟩
                      obtain ⟨r1, r2, r3, r4, r5, r6, r7⟩ := round_part swo_ltInt (partition_holds ltInt) hpv.1 hpv.2 (show b' ≤ (rd ltInt dk a' b' lim wb wp).pi.1.size by omega) B3 hx
                      have hc22 := partition_u32 blk off cap a' b' (rd ltInt dk a' b' lim wb wp).pivot d0 (rd ltInt dk a' b' lim wb wp).pi.1 w0 wc R (s3.trans hds) hAt6 hpv.1 hpv.2 hb' hsz
                      rw [hx] at hc22
                      have X : Aside (Sort.partition ltInt (rd ltInt dk a' b' lim wb wp).pi.1 a' b' (rd ltInt dk a' b' lim wb wp).pivot = (mid, ap, d4)) := hx
                      clear hx
                      go_upto_if 113 with (go_at_call 42; refine hc22.mono ?_; rintro e w7 ⟨rfl, hAt7⟩)
                      have hx := X.out
                      by_cases h4 : mid - a' < b' - mid
                      · have h4z : (mid : Int) - (a' : Int) < (b' : Int) - (mid : Int) := by omega
                        have hih := ih a' mid (rd ltInt dk a' b' lim wb wp).lim d4 w7 (by omega) hAt7 (r3.trans (s3.trans hds)) (by omega) (by omega) (Nat.lt_of_le_of_lt (Nat.le_trans rd_lim_le hlim) hlimit) r4
                        obtain ⟨pL, sL⟩ := pdq_sorts ltInt swo_ltInt d4 a' mid (rd ltInt dk a' b' lim wb wp).lim true true (by omega) (by omega) r4
                        go_wp2_with (go_at_call 30; refine hih.mono ?_; rintro e w8 ⟨rfl, hw8⟩)
                        go_roundg (b' - (mid + 1))
                        case measure => omega
                        case rel =>
                          refine ⟨mid + 1, b', (rd ltInt dk a' b' lim wb wp).lim, decide (mid - a' ≥ (b' - a') / 8), ap, pdq ltInt d4 a' mid (rd ltInt dk a' b' lim wb wp).lim true true, by simp, rfl, rfl, ?_, rfl, by omega, by omega, Nat.le_refl _, by omega, Nat.le_trans rd_lim_le hlim, by rw [pL.1, r3, s3, hds], (r6 _ pL sL).1, hw8, ?_⟩
                          · exact congrArg Value.bool (eighthU (by omega) (by omega))
                          · rw [← A.out, pdq_left h12 hl0 hp2 h87 (by rw [hx]; exact ⟨r1, r2⟩) (by rw [hx]; exact h4), hx]
                      · have h4z : ¬ ((mid : Int) - (a' : Int) < (b' : Int) - (mid : Int)) := by omega
                        have hih := ih (mid + 1) b' (rd ltInt dk a' b' lim wb wp).lim d4 w7 (by omega) hAt7 (r3.trans (s3.trans hds)) (by omega) (by omega) (Nat.lt_of_le_of_lt (Nat.le_trans rd_lim_le hlim) hlimit) r5
                        obtain ⟨pL, sL⟩ := pdq_sorts ltInt swo_ltInt d4 (mid + 1) b' (rd ltInt dk a' b' lim wb wp).lim true true (by omega) (by omega) r5
                        go_wp2_with (go_at_call 30; refine hih.mono ?_; rintro e w8 ⟨rfl, hw8⟩)
                        go_roundg (mid - a')
                        case measure => omega
                        case rel =>
                          refine ⟨a', mid, (rd ltInt dk a' b' lim wb wp).lim, decide (b' - mid ≥ (b' - a') / 8), ap, pdq ltInt d4 (mid + 1) b' (rd ltInt dk a' b' lim wb wp).lim true true, rfl, rfl, rfl, ?_, rfl, by omega, by omega, Nat.le_refl _, by omega, Nat.le_trans rd_lim_le hlim, by rw [pL.1, r3, s3, hds], (r7 _ pL sL).1, hw8, ?_⟩
                          · exact congrArg Value.bool (eighthU (by omega) (by omega))
                          · rw [← A.out, pdq_right h12 hl0 hp2 h87 (by rw [hx]; exact ⟨r1, r2⟩) (by rw [hx]; exact h4), hx]
                    · -- ████ 'mid := partitionEqualOrdered(..); a = mid; continue'
                      have h87' := h87
                      simp only [Bool.and_eq_true, decide_eq_true_eq, Bool.not_eq_true'] at h87'
                      obtain ⟨mid, d4, hx⟩ : ∃ mid d4, partitionEqual ltInt (rd ltInt dk a' b' lim wb wp).pi.1 a' b' (rd ltInt dk a' b' lim wb wp).pivot = (mid, d4) := ⟨(partitionEqual ltInt (rd ltInt dk a' b' lim wb wp).pi.1 a' b' (rd ltInt dk a' b' lim wb wp).pivot).1, (partitionEqual ltInt (rd ltInt dk a' b' lim wb wp).pi.1 a' b' (rd ltInt dk a' b' lim wb wp).pivot).2, rfl⟩
                      obtain ⟨r1, r2, r3, r4, _⟩ := round_eq swo_ltInt (partitionEqual_holds ltInt) h87'.1 hpv.1 hpv.2 (show b' ≤ (rd ltInt dk a' b' lim wb wp).pi.1.size by omega) B3 h87'.2 hx
                      have hc21 := partEq_u32 blk off cap a' b' (rd ltInt dk a' b' lim wb wp).pivot d0 (rd ltInt dk a' b' lim wb wp).pi.1 w0 wc R (s3.trans hds) hAt6 hpv.1 hpv.2 hb' hsz
                      rw [hx] at hc21
                      have X : Aside (partitionEqual ltInt (rd ltInt dk a' b' lim wb wp).pi.1 a' b' (rd ltInt dk a' b' lim wb wp).pivot = (mid, d4)) := hx
                      clear hx
                      go_wp2_with (go_at_call 41; refine hc21.mono ?_; rintro e w7 ⟨rfl, hw7⟩)
                      go_roundg (b' - mid)
                      case measure => omega
                      case rel =>
                        have hx := X.out
                        exact ⟨mid, b', (rd ltInt dk a' b' lim wb wp).lim, wb, wp, d4, rfl, rfl, rfl, rfl, rfl, r2, hb', Nat.le_refl _, by omega, Nat.le_trans rd_lim_le hlim, by rw [r3, s3, hds], r4, hw7, by rw [← A.out, pdq_eq h12 hl0 hp2 h87 (by rw [hx]; exact ⟨r1, r2⟩), hx]⟩

end Go.Proofs.Ytdkbfcogmlghfaa.P

namespace Go.Proofs.Ytdkbfcogmlghfaa.P
open Go.Sort
set_option linter.unusedVariables false
/-! A list of numbers, sorted: one by one laid where it belongs. -/
def insU (x : Int) : List Int → List Int
  | [] => [x]
  | y :: s => if x ≤ y then x :: y :: s else y :: insU x s
def sortU : List Int → List Int
  | [] => []
  | x :: s => insU x (sortU s)
theorem insU_perm (x : Int) : ∀ l, (insU x l).Perm (x :: l)
  | [] => List.Perm.refl _
  | y :: s => by
    unfold insU
    split
    · exact List.Perm.refl _
    · exact ((insU_perm x s).cons y).trans (List.Perm.swap x y s)
theorem insU_pair (x : Int) : ∀ l, l.Pairwise (fun a b : Int => a ≤ b) → (insU x l).Pairwise (fun a b : Int => a ≤ b)
  | [], _ => by simp [insU]
  | y :: s, h => by
    rw [List.pairwise_cons] at h
    obtain ⟨h1, h2⟩ := h
    unfold insU
    split
    · rename_i hxy
      rw [List.pairwise_cons]
      refine ⟨?_, List.pairwise_cons.2 ⟨h1, h2⟩⟩
      intro a ha
      rcases List.mem_cons.1 ha with rfl | ha
      · exact hxy
      · exact Int.le_trans hxy (h1 a ha)
    · rename_i hxy
      rw [List.pairwise_cons]
      refine ⟨?_, insU_pair x s h2⟩
      intro a ha
      rcases List.mem_cons.1 ((insU_perm x s).mem_iff.1 ha) with rfl | ha
      · omega
      · exact h1 a ha
theorem sortU_perm : ∀ l, (sortU l).Perm l
  | [] => List.Perm.refl _
  | x :: s => (insU_perm x (sortU s)).trans ((sortU_perm s).cons x)
theorem sortU_pair : ∀ l, (sortU l).Pairwise (fun a b : Int => a ≤ b)
  | [] => List.Pairwise.nil
  | x :: s => insU_pair x _ (sortU_pair s)
theorem sortU_len (l : List Int) : (sortU l).length = l.length := (sortU_perm l).length_eq
theorem sortU_mem (l : List Int) (x : Int) : x ∈ sortU l ↔ x ∈ l := (sortU_perm l).mem_iff
theorem pair_unique (l r : List Int) (h : l.Perm r) (h1 : l.Pairwise (fun a b : Int => a ≤ b)) (h2 : r.Pairwise (fun a b : Int => a ≤ b)) : l = r :=
  List.Perm.eq_of_pairwise (le := fun a b : Int => a ≤ b) (fun a b _ _ x y => Int.le_antisymm x y) h1 h2 h
theorem sortU_self (l : List Int) (h : l.Pairwise (fun a b : Int => a ≤ b)) : sortU l = l := pair_unique _ _ (sortU_perm l) (sortU_pair l) h
theorem sortU_merge (l : List Int) : l.mergeSort (fun x y => decide (x ≤ y)) = sortU l := by
  refine pair_unique _ _ ((List.mergeSort_perm _ _).trans (sortU_perm l).symm) ?_ (sortU_pair l)
  have h := List.pairwise_mergeSort (le := fun x y : Int => decide (x ≤ y)) (fun a b c h1 h2 => by simp only [decide_eq_true_eq] at *; omega) (fun a b => by by_cases h : a ≤ b; simp [h]; simp [h]; omega) l
  exact h.imp (fun h => by simpa using h)
theorem sort_arr (l : List Int) : Go.Sort.sort ltInt l.toArray = (sortU l).toArray := by
  have h := sortInt l
  rw [sortU_merge] at h
  rw [← h]
end Go.Proofs.Ytdkbfcogmlghfaa.P

namespace Go.Proofs.Ytdkbfcogmlghfaa.P
open Go.RowKit Go.Proofs.YtdkbfcogmlghfaaW.PrintWords Go.Proofs.YtdkbfcogmlghfaaW.PrintLast Go.Proofs.YtdkbfcogmlghfaaW.PrintMore Go.Lib Go.Shelf Go.Sort
set_option linter.unusedVariables false
set_option linter.unusedSimpArgs false
/-! Go's own sort of a slice of uint32, whatever its length. -/
def lay_bitsLen_ren : Go.Shelf.Ren := ⟨fun | 15 => 31 | 28 => 43 | 29 => 44 | n => n, fun | 39 => 57 | 3 => 3 | 53 => 22 | 55 => 72 | 4 => 4 | 5 => 5 | 9 => 9 | n => n, fun n => n⟩
theorem lay_bitsLen : SlLaysF0.n15 Try.prog lay_bitsLen_ren := {
  mixed := by kernel_rfl,
  f15 := Try.func31.trans (congrArg some (by kernel_rfl)),
  f28 := Try.func43.trans (congrArg some (by kernel_rfl)),
  f29 := Try.func44.trans (congrArg some (by kernel_rfl)),
  t3 := Try.underlying3,
  a3 := Try.isAgg3,
  z3 := Try.sizeOf3,
  v3 := Try.zeroValue3,
  t4 := Try.underlying4,
  a4 := Try.isAgg4,
  z4 := Try.sizeOf4,
  v4 := Try.zeroValue4,
  t5 := Try.underlying5,
  a5 := Try.isAgg5,
  z5 := Try.sizeOf5,
  v5 := Try.zeroValue5,
  t9 := Try.underlying9,
  a9 := Try.isAgg9,
  z9 := Try.sizeOf9,
  v9 := Try.zeroValue9,
  t39 := Try.underlying57,
  a39 := Try.isAgg57,
  z39 := Try.sizeOf57,
  v39 := Try.zeroValue57,
  t53 := Try.underlying22,
  a53 := Try.isAgg22,
  z53 := Try.sizeOf22,
  v53 := Try.zeroValue22,
  t55 := Try.underlying72,
  a55 := Try.isAgg72,
  z55 := Try.sizeOf72,
  v55 := Try.zeroValue72 }

def Sort_u32.f (k : Nat) (l0 : List Int) : Option (List Int) := if l0.length < 4611686018427387904 then some (sortU l0) else none
theorem Sort_u32.mono : ∀ a0 k, LeO (Sort_u32.f k a0) (Sort_u32.f (k + 1) a0) := fun a0 k r h => h
theorem bits_len (n : Nat) (hn : n < 4611686018427387904) (W : World) : Calls Try.prog 31 #[.int .u64 (n : Int)] W fun e w' => e = .returned (.int .i64 (bitsLen n : Nat)) ∧ w' = W := by
  have h := Any.bits_Len (SlLaysF0.n15.bits (P := Try.prog) (ρ := lay_bitsLen_ren) lay_bitsLen) (n : Int) W (by omega) (by omega)
  rwa [Int.toNat_natCast, bitLen_eq _ (by omega)] at h
theorem ins_nil (w : World) : Calls Try.prog 34 #[.slice none 0 0, .int .i64 0, .int .i64 0] w fun e w' => e = .returned (.tuple #[]) ∧ ∃ q, w' = w.drewN q := by
  go_enter Try.func34, Try.ntmps34
  go_wp2
  refine wp_loop_rounds 1 ?_
  rw [rounds_succ]
  go_wp2
  go_end0
  exact ⟨rfl, 0, rfl⟩
theorem pdq_nil (w : World) : Calls Try.prog 30 #[.slice none 0 0, .int .i64 0, .int .i64 0, .int .i64 0] w fun e w' => e = .returned (.tuple #[]) ∧ ∃ q, w' = w.drewN q := by
  go_enter Try.func30, Try.ntmps30
  go_wp2
  refine wp_loop_rounds 1 ?_
  rw [rounds_succ]
  go_wp2_with (first | (go_at_call 34; refine (ins_nil _).mono ?_; rintro e w1 ⟨rfl, q, rfl⟩))
  refine bodyPost_ret (results_none rfl _ _ _) rfl ?_
  exact ⟨rfl, q, rfl⟩
theorem sort_nil (w : World) : Calls Try.prog 22 #[.slice none 0 0] w fun e w' => e = .returned (.tuple #[]) ∧ ∃ q, w' = w.drewN q := by
  have HBL := Go.Lib.hid (bits_len 0 (by omega) w)
  go_enter Try.func22, Try.ntmps22
  go_wp2_with (first | (go_at_call 31; refine HBL.out.mono ?_; rintro e w1 ⟨rfl, rfl⟩) | (go_at_call 30; refine (pdq_nil _).mono ?_; rintro e w1 ⟨rfl, q, rfl⟩))
  go_end0
  exact ⟨rfl, q, rfl⟩
theorem sort_row (blk off cap : Nat) (l : List Int) (w : World) (hH : Holds (.int .u32) w blk off l.toArray) (hblk : blk < w.heap.size) (hsz : l.length < 4611686018427387904) :
    Calls Try.prog 22 #[.slice (some ⟨blk, off, none⟩) l.length cap] w fun e w' => e = .returned (.tuple #[]) ∧ SW (.int .u32) w blk off (sortU l).toArray w' := by
  have hlim : bitsLen l.length < 4611686018427387904 := Nat.lt_of_le_of_lt ((bitsLen_le_iff l.length 62).2 (by omega)) (by omega)
  have K := pdq_u32 blk off cap l.toArray w (row_u32 hH hblk) (by simpa using hsz) (l.length + 1) 0 l.length (bitsLen l.length) l.toArray w (by omega) (SW.start hH) rfl (Nat.zero_le _) (by simp) hlim (Or.inl rfl)
  have e : pdq ltInt l.toArray 0 l.length (bitsLen l.length) true true = (sortU l).toArray := by
    rw [← sort_arr l]
    unfold Go.Sort.sort
    simp
  rw [e] at K
  simp only [List.size_toArray] at K
  have HP := Go.Lib.hid K
  have HBL := Go.Lib.hid (bits_len l.length hsz w)
  have wrp : IntKind.u64.wrap (l.length : Int) = l.length := by simp [IntKind.wrap, IntKind.bits, IntKind.signed]; omega
  clear K e hlim hH hblk
  go_enter Try.func22, Try.ntmps22
  go_wp2_with (first | (go_at_call 31; refine HBL.out.mono ?_; rintro e w1 ⟨rfl, rfl⟩) | (go_at_call 30; refine HP.out.mono ?_; rintro e w1 ⟨rfl, h1⟩; have H1 := Go.Lib.hid h1; clear h1))
  go_end0
  exact ⟨rfl, H1.out⟩
theorem Sort_u32.calls (k : Nat) (P0_ : Nat → Prop) (u9000_ : Value) (l0 : List Int) (r : List Int) (w0 w : World) (hB : Below w0.heap.size w0 w) (ho0 : Kd.R (Kd.int .u32) 22 w w0.heap.size P0_ u9000_ l0) (h : Sort_u32.f k l0 = some r) :
    Calls Try.prog 22 #[u9000_] w fun e w' => e = .returned (.tuple #[]) ∧ Kd.R (Kd.int .u32) 22 w' w0.heap.size (fun k_ => (P0_ k_ ∨ w.heap.size ≤ k_)) u9000_ r ∧ Below w0.heap.size w0 w' ∧ Kept w w' (fun k_ => P0_ k_) := by
  unfold Sort_u32.f at h
  by_cases hl : l0.length < 4611686018427387904
  · rw [if_pos hl] at h
    have hr := Option.some.inj h
    clear h
    rcases bridge_down (d := Kd.int .u32) (enc := fun x : Int => [.int .u32 x]) (fun h => h) (fun _ => rfl) (by decide) ho0 with ⟨rfl, rfl⟩ | ⟨g, cap, cur, rfl, hbase, hb, hnc, hcm, hcs, hok, hH⟩
    · have hrn : r = [] := by rw [← hr]; rfl
      subst hrn
      refine (sort_nil w).mono ?_
      rintro e w' ⟨rfl, q, rfl⟩
      exact ⟨rfl, Kd.R_nil _ _ _ _ _, ⟨hB.os, hB.tape, hB.output, hB.size, hB.block⟩, Kept.refl _ _⟩
    · refine (sort_row g 0 cap l0 w (holds_one _ _ _ _ _ hH) (blk_lt hb) hl).mono ?_
      rintro e w' ⟨rfl, m, os, rfl⟩
      rw [hr]
      have hyl : r.length = l0.length := by rw [← hr]; exact sortU_len l0
      have hup := bridge_up (d := Kd.int .u32) (enc := fun x : Int => [.int .u32 x]) (ys := r) (fun _ _ _ _ => rfl) (fun _ => rfl) (by decide) hB hbase hb hyl hnc hcm hcs hok m os
      rw [show (Kd.int .u32).sz = 1 from rfl, ← putRow_one] at hup
      exact ⟨rfl, hup⟩
  · rw [if_neg hl] at h
    exact absurd h (by simp)
end Go.Proofs.Ytdkbfcogmlghfaa.P

namespace Go.Proofs.Ytdkbfcogmlghfaa.P
open Ieee
set_option linter.unusedVariables false
set_option linter.unusedSimpArgs false
/-! Small whole numbers as floats of 64 bits: what they read as, how they stand to each other, what a difference's sign is. -/
/-- The float of a number below 65536. -/
def F (n : Nat) : Nat := FloatKind.f64.nearest (n : Int)
theorem d1 : double.leastPlace = -1074 := by decide
theorem d2 : double.infRung = 9218868437227405312 := by decide
theorem d3 : double.binade = 4503599627370496 := by decide
theorem d4 : (double.fractionBits : Int) = 52 := rfl
theorem d5 : double.signWeight = 9223372036854775808 := by decide
theorem log2_rng (n : Nat) (h0 : 0 < n) (h : n < 65536) : 2 ^ n.log2 ≤ n ∧ n < 2 ^ (n.log2 + 1) ∧ n.log2 ≤ 15 := by
  have h1 := Nat.log2_self_le (n := n) (by omega)
  have h2 := Nat.lt_log2_self (n := n)
  refine ⟨h1, h2, ?_⟩
  have : n.log2 < 16 := (Nat.log2_lt (by omega)).2 h
  omega
theorem nearest_pos (n : Nat) (h0 : 0 < n) (h : n < 65536) : double.nearest false n 0 = (n.log2 + 1022) * 4503599627370496 + n * 2 ^ (52 - n.log2) ∧ 4503599627370496 ≤ n * 2 ^ (52 - n.log2) ∧ n * 2 ^ (52 - n.log2) < 9007199254740992 := by
  obtain ⟨h1, h2, h3⟩ := log2_rng n h0 h
  unfold Format.nearest
  rw [if_neg (by omega), d1, d2, d3, d4]
  simp only []
  have el : max ((0 : Int) + (n.log2 : Int) - 52) (-1074) = (n.log2 : Int) - 52 := by omega
  rw [el]
  have ek : ((0 : Int) - ((n.log2 : Int) - 52)).toNat = 52 - n.log2 := by omega
  have ed : ((n.log2 : Int) - 52 - 0).toNat = 0 := by omega
  have ep : ((n.log2 : Int) - 52 - -1074).toNat = n.log2 + 1022 := by omega
  rw [ek, ed, ep, Nat.shiftLeft_eq]
  have ec : Toward.even.cut false (n * 2 ^ (52 - n.log2)) 0 = n * 2 ^ (52 - n.log2) := by
    simp [Toward.cut, Nat.mod_one]
  rw [ec]
  unfold Format.word
  simp only [Bool.false_eq_true, if_false]
  generalize n.log2 = l at h1 h2 h3
  have hl : l = 0 ∨ l = 1 ∨ l = 2 ∨ l = 3 ∨ l = 4 ∨ l = 5 ∨ l = 6 ∨ l = 7 ∨ l = 8 ∨ l = 9 ∨ l = 10 ∨ l = 11 ∨ l = 12 ∨ l = 13 ∨ l = 14 ∨ l = 15 := by omega
  rcases hl with rfl | rfl | rfl | rfl | rfl | rfl | rfl | rfl | rfl | rfl | rfl | rfl | rfl | rfl | rfl | rfl <;> (simp only [Nat.reducePow, Nat.reduceAdd, Nat.reduceSub] at h1 h2 ⊢; omega)
/-- The whole number that a datum stands for. -/
def Rep (d : Datum) (z : Nat) : Prop := ∃ m i, d = .number false m i ∧ i ≤ 0 ∧ -1074 ≤ i ∧ ∀ base : Int, base ≤ i → m <<< (i - base).toNat = z * 2 ^ (-base).toNat
theorem F_zero : F 0 = 0 := by decide
theorem read_zero : double.read 0 = .number false 0 (-1074) := by decide
theorem F_pos (n : Nat) (h0 : 0 < n) : F n = double.nearest false n 0 := by
  unfold F FloatKind.nearest FloatKind.encode FloatKind.format
  simp only [Format.write, Int.natAbs_natCast]
  rw [decide_eq_false (by omega)]
theorem rep_F (n : Nat) (h : n < 65536) : Rep (double.read (F n)) n := by
  by_cases h0 : n = 0
  · subst h0
    rw [F_zero, read_zero]
    exact ⟨0, -1074, rfl, by omega, by omega, fun base _ => by simp⟩
  · have h0' : 0 < n := by omega
    obtain ⟨e, g1, g2⟩ := nearest_pos n h0' h
    obtain ⟨l1, l2, l3⟩ := log2_rng n h0' h
    rw [F_pos n h0', e]
    refine ⟨n * 2 ^ (52 - n.log2), (n.log2 : Int) - 52, ?_, by omega, by omega, ?_⟩
    · unfold Format.read
      rw [d1, d2, d3, d5]
      simp only []
      generalize n * 2 ^ (52 - n.log2) = m at g1 g2
      generalize n.log2 = l at l3
      have q1 : ((l + 1022) * 4503599627370496 + m) / 9223372036854775808 = 0 := by omega
      have q2 : ((l + 1022) * 4503599627370496 + m) % 9223372036854775808 = (l + 1022) * 4503599627370496 + m := by omega
      rw [q1, q2, if_neg (by omega), if_pos (by omega)]
      have q3 : 4503599627370496 + ((l + 1022) * 4503599627370496 + m) % 4503599627370496 = m := by omega
      have q4 : (-1074 : Int) + (((l + 1022) * 4503599627370496 + m) / 4503599627370496 - 1 : Nat) = (l : Int) - 52 := by omega
      rw [q3, q4]
      rfl
    · intro base hb
      rw [Nat.shiftLeft_eq, Nat.mul_assoc, ← Nat.pow_add]
      congr 2
      omega
theorem order_F (a b : Nat) (ha : a < 65536) (hb : b < 65536) : double.order (F a) (F b) = some (compare a b) := by
  obtain ⟨m, i, e1, i1, i2, f1⟩ := rep_F a ha
  obtain ⟨n, j, e2, j1, j2, f2⟩ := rep_F b hb
  unfold Format.order
  rw [e1, e2]
  simp only [Datum.order, signed, Bool.false_eq_true, if_false]
  rw [f1 (min i j) (by omega), f2 (min i j) (by omega)]
  have hp : 0 < 2 ^ (-(min i j)).toNat := Nat.two_pow_pos _
  generalize 2 ^ (-(min i j)).toNat = q at hp
  congr 1
  have k : ∀ x y : Nat, compare x y = if x < y then .lt else if x = y then .eq else .gt := fun x y => rfl
  have k2 : ∀ x y : Int, compare x y = if x < y then .lt else if x = y then .eq else .gt := fun x y => rfl
  rw [k, k2]
  by_cases h1 : a < b
  · have : a * q < b * q := Nat.mul_lt_mul_of_pos_right h1 hp
    rw [if_pos h1, if_pos (by omega)]
  · by_cases h2 : a = b
    · subst h2
      rw [if_neg h1, if_pos rfl, if_neg (by omega), if_pos rfl]
    · have : b * q < a * q := Nat.mul_lt_mul_of_pos_right (by omega) hp
      rw [if_neg h1, if_neg h2, if_neg (by omega), if_neg (by omega)]
/-- What a rung's word is to zero. -/
theorem order_word (neg : Bool) (r : Nat) (h0 : 0 < r) (h1 : r ≤ 9218868437227405312) : double.order (double.word neg r) 0 = some (if neg then .lt else .gt) := by
  have k2 : ∀ x y : Int, compare x y = if x < y then .lt else if x = y then .eq else .gt := fun x y => rfl
  unfold Format.order
  rw [read_zero]
  have hr : double.read (double.word neg r) = (if r < 4503599627370496 then .number neg r (-1074) else if r < 9218868437227405312 then .number neg (4503599627370496 + r % 4503599627370496) (-1074 + (r / 4503599627370496 - 1 : Nat)) else .infinity neg) := by
    unfold Format.read Format.word
    rw [d1, d2, d3, d5]
    simp only []
    cases neg with
    | false =>
      simp only [Bool.false_eq_true, if_false]
      have q1 : r / 9223372036854775808 = 0 := by omega
      have q2 : r % 9223372036854775808 = r := by omega
      rw [q1, q2]
      by_cases c1 : r < 4503599627370496
      · rw [if_pos c1, if_pos c1]; rfl
      · by_cases c2 : r < 9218868437227405312
        · rw [if_neg c1, if_pos c2, if_neg c1, if_pos c2]; rfl
        · rw [if_neg c1, if_neg c2, if_neg c1, if_neg c2, if_pos (by omega)]; rfl
    | true =>
      simp only [if_true]
      have q1 : (9223372036854775808 + r) / 9223372036854775808 = 1 := by omega
      have q2 : (9223372036854775808 + r) % 9223372036854775808 = r := by omega
      rw [q1, q2]
      by_cases c1 : r < 4503599627370496
      · rw [if_pos c1, if_pos c1]; rfl
      · by_cases c2 : r < 9218868437227405312
        · rw [if_neg c1, if_pos c2, if_neg c1, if_pos c2]; rfl
        · rw [if_neg c1, if_neg c2, if_neg c1, if_neg c2, if_pos (by omega)]; rfl
  rw [hr]
  have num : ∀ (m : Nat) (i : Int), 0 < m → (Datum.number neg m i).order (.number false 0 (-1074)) = some (if neg then .lt else .gt) := by
    intro m i hm
    have hp : 0 < m <<< (i - min i (-1074)).toNat := by rw [Nat.shiftLeft_eq]; exact Nat.mul_pos hm (Nat.two_pow_pos _)
    simp only [Datum.order, signed, Bool.false_eq_true, if_false, Nat.zero_shiftLeft]
    generalize m <<< (i - min i (-1074)).toNat = z at hp
    cases neg with
    | false => simp only [Bool.false_eq_true, if_false]; rw [k2, if_neg (by omega), if_neg (by omega)]
    | true => simp only [if_true]; rw [k2, if_pos (by omega)]
  split
  · exact num _ _ h0
  · split
    · exact num _ _ (by omega)
    · cases neg <;> rfl
theorem order_nearest (neg : Bool) (mag : Nat) (place : Int) (h0 : 0 < mag) (hp : -1074 ≤ place) : double.order (double.nearest neg mag place) 0 = some (if neg then .lt else .gt) := by
  unfold Format.nearest
  rw [if_neg (by omega), d1, d2, d3, d4]
  simp only []
  refine order_word neg _ ?_ (Nat.min_le_right _ _)
  generalize hl : max (place + (mag.log2 : Int) - 52) (-1074) = last
  have hpos : 0 < (last - -1074).toNat * 4503599627370496 + Toward.even.cut neg (mag <<< (place - last).toNat) (last - place).toNat := by
    by_cases hd : last ≤ place
    · have e : (last - place).toNat = 0 := by omega
      rw [e]
      have ec : Toward.even.cut neg (mag <<< (place - last).toNat) 0 = mag <<< (place - last).toNat := by simp [Toward.cut, Nat.mod_one]
      rw [ec, Nat.shiftLeft_eq]
      have := Nat.mul_pos h0 (Nat.two_pow_pos (place - last).toNat)
      omega
    · omega
  omega
theorem order_zero (neg : Bool) : double.order (double.word neg 0) 0 = some .eq := by cases neg <;> decide
/-- A difference of two, not below zero. -/
theorem sub_ge (a b : Nat) (ha : a < 65536) (hb : b < 65536) : ∃ r, double.sub (F a) (F b) = some r ∧ (double.order r 0 == some .gt || double.order r 0 == some .eq) = decide (b ≤ a) := by
  obtain ⟨m, i, e1, i1, i2, f1⟩ := rep_F a ha
  obtain ⟨n, j, e2, j1, j2, f2⟩ := rep_F b hb
  unfold Format.sub
  rw [e1, e2]
  simp only [Datum.opposite, Datum.sum, signed, Bool.false_eq_true, if_false, Bool.not_false, if_true, Option.map_some, Format.write, Bool.false_and]
  rw [f1 (min i j) (by omega), f2 (min i j) (by omega)]
  refine ⟨_, rfl, ?_⟩
  have hp : 0 < 2 ^ (-(min i j)).toNat := Nat.two_pow_pos _
  generalize 2 ^ (-(min i j)).toNat = q at hp
  by_cases h : a = b
  · subst h
    have e0 : ((a * q : Nat) : Int) + -((a * q : Nat) : Int) = 0 := by omega
    rw [e0]
    simp only [if_true, Int.natAbs_zero]
    have en : double.nearest false 0 (min i j) = double.word false 0 := by unfold Format.nearest; rw [if_pos rfl]
    rw [en, order_zero, decide_eq_true (Nat.le_refl _)]
    rfl
  · by_cases hab : a < b
    · have hm : a * q < b * q := Nat.mul_lt_mul_of_pos_right hab hp
      rw [if_neg (by omega), decide_eq_true (by omega), order_nearest true _ _ (by omega) (by omega), decide_eq_false (by omega)]
      rfl
    · have hm : b * q < a * q := Nat.mul_lt_mul_of_pos_right (by omega) hp
      rw [if_neg (by omega), decide_eq_false (by omega), order_nearest false _ _ (by omega) (by omega), decide_eq_true (by omega)]
      rfl
theorem toInt_F (n : Nat) (h : n < 65536) : (double.read (F n)).toInt .zero = some (n : Int) := by
  obtain ⟨m, i, e1, i1, i2, f1⟩ := rep_F n h
  have hm := f1 i (Int.le_refl _)
  rw [Int.sub_self, Int.toNat_zero, Nat.shiftLeft_zero] at hm
  rw [e1]
  unfold Datum.toInt Datum.integral
  simp only []
  have e0 : i.toNat = 0 := by omega
  rw [e0, Nat.shiftLeft_zero]
  have ec : Toward.zero.cut false m (-i).toNat = n := by
    unfold Toward.cut
    simp only [Bool.toNat_false, Nat.add_zero]
    rw [Nat.shiftLeft_eq, Nat.one_mul]
    by_cases h0 : n = 0
    · subst h0
      rw [Nat.zero_mul] at hm
      subst hm
      exact Nat.zero_div _
    · have hge : 2 ^ (-i).toNat ≤ m := by rw [hm]; exact Nat.le_mul_of_pos_left _ (by omega)
      have hpos : 0 < 2 ^ (-i).toNat := Nat.two_pow_pos _
      have hl : (-i).toNat ≤ m.log2 := (Nat.le_log2 (by omega)).2 hge
      rw [Nat.min_eq_left (by omega), hm, Nat.mul_div_cancel _ hpos]
  rw [ec]
  simp only [signed, Bool.false_eq_true, if_false, Nat.shiftLeft_zero]
end Go.Proofs.Ytdkbfcogmlghfaa.P

namespace Go.Proofs.Ytdkbfcogmlghfaa.P
open Go.RowKit Go.Proofs.YtdkbfcogmlghfaaW.PrintWords Go.Proofs.YtdkbfcogmlghfaaW.PrintLast Go.Proofs.YtdkbfcogmlghfaaW.PrintMore
set_option linter.unusedVariables false
set_option linter.unusedSimpArgs false
/-! Communities as points of a plane: point, within, In. -/
theorem quoN (n : Nat) (h : n < 4294967296) : Int.tdiv (n : Int) 65536 % 4294967296 = ((n / 65536 : Nat) : Int) := by
  rw [Int.tdiv_eq_ediv_of_nonneg (by omega)]
  omega
theorem remN (n : Nat) : Int.tmod (n : Int) 65536 = ((n % 65536 : Nat) : Int) := by
  rw [Int.tmod_eq_emod_of_nonneg (by omega)]
  omega
theorem point_calls (n : Nat) (hn : n < 4294967296) (w : World) : Calls Try.prog 19 #[.int .u32 (n : Int)] w fun e w' => e = .returned (.complex .f64 (F (n / 65536)) (F (n % 65536))) ∧ w' = w := by
  have q1 := quoN n hn
  have q2 := remN n
  have hu44 := Try.underlying44
  have hu22 := Try.underlying22
  go_enter Try.func19, Try.ntmps19
  go_wp2
  go_ret
  exact ⟨by simp [floatOfInt, F, q1, q2], rfl⟩
/-- Is the point (a, b) within (c, d) .. (e, f)? -/
def withinN (a b c d e f : Nat) : Bool := decide (c ≤ a) && (decide (d ≤ b) && (decide (a ≤ e) && decide (b ≤ f)))
theorem within_calls (a b c d e f : Nat) (ha : a < 65536) (hb : b < 65536) (hc : c < 65536) (hd : d < 65536) (he : e < 65536) (hf : f < 65536) (w : World) :
    Calls Try.prog 20 #[.complex .f64 (F a) (F b), .complex .f64 (F c) (F d), .complex .f64 (F e) (F f)] w fun x w' => x = .returned (.bool (withinN a b c d e f)) ∧ w' = w := by
  obtain ⟨r1, s1, t1⟩ := sub_ge a c ha hc
  obtain ⟨r2, s2, t2⟩ := sub_ge b d hb hd
  obtain ⟨r3, s3, t3⟩ := sub_ge e a he ha
  obtain ⟨r4, s4, t4⟩ := sub_ge f b hf hb
  have e1 : ∀ w, (binOp .sub 42 (.complex .f64 (F a) (F b)) (.complex .f64 (F c) (F d))).run Try.prog w = .ok (.complex .f64 r1 r2) w := fun w =>
    run_complex_sum w .sub (Or.inr rfl) 42 .f64 _ _ _ _ _ _ (by unfold cSumBits floatBits; simp only [FloatKind.format]; rw [s1, s2]; rfl)
  have e2 : ∀ w, (binOp .sub 42 (.complex .f64 (F e) (F f)) (.complex .f64 (F a) (F b))).run Try.prog w = .ok (.complex .f64 r3 r4) w := fun w =>
    run_complex_sum w .sub (Or.inr rfl) 42 .f64 _ _ _ _ _ _ (by unfold cSumBits floatBits; simp only [FloatKind.format]; rw [s3, s4]; rfl)
  have g1 : (FloatKind.f64.format.order r1 0 == some .gt || FloatKind.f64.format.order r1 0 == some .eq) = decide (c ≤ a) := t1
  have g2 : (FloatKind.f64.format.order r2 0 == some .gt || FloatKind.f64.format.order r2 0 == some .eq) = decide (d ≤ b) := t2
  have g3 : (FloatKind.f64.format.order r3 0 == some .gt || FloatKind.f64.format.order r3 0 == some .eq) = decide (a ≤ e) := t3
  have g4 : (FloatKind.f64.format.order r4 0 == some .gt || FloatKind.f64.format.order r4 0 == some .eq) = decide (b ≤ f) := t4
  clear s1 s2 s3 s4 t1 t2 t3 t4
  unfold withinN
  generalize F a = fa at e1 e2 ⊢
  generalize F b = fb at e1 e2 ⊢
  generalize F c = fc at e1 ⊢
  generalize F d = fd at e1 ⊢
  generalize F e = fe at e2 ⊢
  generalize F f = ff at e2 ⊢
  have HG := Go.Lib.hid (And.intro g1 (And.intro g2 (And.intro g3 g4)))
  clear g1 g2 g3 g4
  go_enter Try.func20, Try.ntmps20
  go_wp2
  all_goals
    go_ret
    obtain ⟨g1, g2, g3, g4⟩ := HG.out
    refine ⟨?_, rfl⟩
    rw [← g1, ← g2, ← g3, ← g4]
    clear HG g1 g2 g3 g4 e1 e2
    simp_all [Bool.and_assoc]
theorem in_of (n lo hi : Nat) (hn : n < 4294967296) (hlo : lo < 4294967296) (hhi : hi < 4294967296) (w : World) :
    Calls Try.prog 11 #[.agg #[.int .u32 (lo : Int), .int .u32 (hi : Int)], .int .u32 (n : Int)] w fun e w' => e = .returned (.bool (withinN (n / 65536) (n % 65536) (lo / 65536) (lo % 65536) (hi / 65536) (hi % 65536))) ∧ Below w.heap.size w w' := by
  have hu24 := Try.underlying24
  have hp := fun (m : Nat) (hm : m < 4294967296) (w : World) => point_calls m hm w
  have hw := fun (w : World) => within_calls (n / 65536) (n % 65536) (lo / 65536) (lo % 65536) (hi / 65536) (hi % 65536) (by omega) (by omega) (by omega) (by omega) (by omega) (by omega) w
  have HP := Go.Lib.hid hp
  have HW := Go.Lib.hid hw
  clear hp hw
  go_enter Try.func11, Try.ntmps11
  go_wp2
  go_big_quiet (first | (go_at_call 19; refine Calls.quiet_of_same (HP.out _ (by assumption) _)) | (go_at_call 20; refine Calls.quiet_of_same (HW.out _)))
  go_wp2
  go_ret
  exact ⟨rfl, pw_below_drewN ((Below.refl _ _).alloc (Nat.le_refl _) _) _⟩
def u32B (a : Int) : Bool := decide (0 ≤ a) && decide (a < 4294967296)
theorem u32B_nat {a : Int} (h : u32B a = true) : ∃ n : Nat, a = (n : Int) ∧ n < 4294967296 := by
  unfold u32B at h
  simp only [Bool.and_eq_true, decide_eq_true_eq] at h
  exact ⟨a.toNat, by omega, by omega⟩
/-- Is the community c in the box lo .. hi? -/
def inB (lo hi c : Nat) : Bool := withinN (c / 65536) (c % 65536) (lo / 65536) (lo % 65536) (hi / 65536) (hi % 65536)
def plane_In.f (a0_0 : Int) (a0_1 : Int) (a1 : Int) : Option Bool := if (u32B a0_0 && (u32B a0_1 && u32B a1)) = true then some (inB a0_0.toNat a0_1.toNat a1.toNat) else none
theorem plane_In.calls (a0_0 : Int) (a0_1 : Int) (a1 : Int) (r : Bool) (w : World) (h : plane_In.f a0_0 a0_1 a1 = some r) :
    Calls Try.prog 11 #[.agg #[.int .u32 a0_0, .int .u32 a0_1], .int .u32 a1] w fun e w' => e = .returned (.bool r) ∧ Below w.heap.size w w' := by
  unfold plane_In.f at h
  by_cases hg : (u32B a0_0 && (u32B a0_1 && u32B a1)) = true
  · rw [if_pos hg] at h
    simp only [Bool.and_eq_true] at hg
    obtain ⟨lo, rfl, h1⟩ := u32B_nat hg.1
    obtain ⟨hi, rfl, h2⟩ := u32B_nat hg.2.1
    obtain ⟨n, rfl, h3⟩ := u32B_nat hg.2.2
    have hr := Option.some.inj h
    subst hr
    exact in_of n lo hi h3 h1 h2 w
  · rw [if_neg hg] at h
    exact absurd h (by simp)
end Go.Proofs.Ytdkbfcogmlghfaa.P

namespace Go.Proofs.Ytdkbfcogmlghfaa.P
open Go.RowKit Go.Proofs.YtdkbfcogmlghfaaW.PrintWords Go.Proofs.YtdkbfcogmlghfaaW.PrintLast Go.Proofs.YtdkbfcogmlghfaaW.PrintMore
attribute [local go_sem] max2_int min2_int max_two min_two max_three min_three max_four min_four
set_option linter.unusedVariables false
set_option linter.unusedSimpArgs false

/-! ### plane_kind: function 25 -/
def q3z.l0 : Nat → Int → List Int → List (S24) → Int → Int → Option (ByteArray)
 | 0, _, _, _, _, _ => none
 | k + 1, x1, x5, x11, x12, x13 => if x13 < x12 then (if 0 ≤ x13 then (if x13 < (x11.length : Int) then ((plane_In.f ((rd_T24 x11 x13).f0) ((rd_T24 x11 x13).f1) x1).bind fun t6 => (if t6 = true then (if x13 < (x5.length : Int) then (q3z.l0 k x1 (x5.set (x13 : Int).toNat 1) x11 x12 (wrap64 (x13 + 1))) else (none)) else (q3z.l0 k x1 x5 x11 x12 (wrap64 (x13 + 1))))) else (none)) else (none)) else (some (strOfNums x5))
def q3z.f (k : Nat) (l0 : List (S24)) (a1 : Int) : Option (ByteArray) := if 0 ≤ (l0.length : Int) then (if ((l0.length : Int) : Int).toNat ≤ 281474976710656 then (q3z.l0 k a1 (List.replicate ((l0.length : Int) : Int).toNat 0) l0 (l0.length : Int) 0) else (none)) else (none)
theorem q3z.mono_l : ∀ k, (∀ y0 y1 y2 y3 y4, LeO (q3z.l0 k y0 y1 y2 y3 y4) (q3z.l0 (k + 1) y0 y1 y2 y3 y4))
 | 0 => fun _ _ _ _ _ r h => by simp [q3z.l0] at h
 | k + 1 => by
  have ih0 := q3z.mono_l k
  ·
   intro y0 y1 y2 y3 y4
   unfold q3z.l0
   repeat' first
   | (with_reducible exact ih0 _ _ _ _ _)
   | (with_reducible exact LeO.refl _)
   | (with_reducible exact LeO.none _)
   | (with_reducible refine LeO.ite ?_ ?_)
   | (with_reducible refine LeO.bind ?_ (fun _ => ?_))
   | exact ih0 _ _ _ _ _
   | exact LeO.none _
   | refine LeO.ite ?_ ?_
   | refine LeO.bind ?_ (fun _ => ?_)
theorem q3z.mono : ∀ a0 a1 k, LeO (q3z.f k a0 a1) (q3z.f (k + 1) a0 a1) := by
 intro a0 a1 k
 have ih0 := q3z.mono_l k
 unfold q3z.f
 repeat' first
   | (with_reducible exact ih0 _ _ _ _ _)
   | (with_reducible exact LeO.refl _)
   | (with_reducible exact LeO.none _)
   | (with_reducible refine LeO.ite ?_ ?_)
   | (with_reducible refine LeO.bind ?_ (fun _ => ?_))
   | exact ih0 _ _ _ _ _
   | exact LeO.none _
   | refine LeO.ite ?_ ?_
   | refine LeO.bind ?_ (fun _ => ?_)
set_option maxHeartbeats 8000000 in
set_option maxRecDepth 100000 in
theorem q3z.calls (k : Nat) (A0 : Option Addr) (c0 : Nat) (l0 : List (S24)) (a1 : Int) (r : ByteArray) (w : World) (hr0 : Kd.C k24 w A0 l0.length l0) (hc0 : l0.length ≤ c0) (h : q3z.f k l0 a1 = some r) :
  Calls Try.prog 25 #[.slice A0 l0.length c0, .int .u32 a1] w fun e w' => e = .returned (.string r) ∧ Below w.heap.size w w' := by
 have hu24 := Try.underlying24
 have HR0 := Aside0.mk hr0
 have HC0 := Aside0.mk hc0
 clear hr0 hc0
 have HB := Aside0.mk (Below.refl w.heap.size w)
 have H : (if 0 ≤ (l0.length : Int) then (if ((l0.length : Int) : Int).toNat ≤ 281474976710656 then (q3z.l0 k a1 (List.replicate ((l0.length : Int) : Int).toNat 0) l0 (l0.length : Int) 0) else (none)) else (none)) = some r := h
 clear h
 by_cases c3 : 0 ≤ (l0.length : Int)
 ·
  rw [if_pos c3] at H
  have c3b0 := eq_true c3
  have c3b1 : decide (0 ≤ (l0.length : Int)) = true := decide_eq_true c3
  clear c3
  by_cases c4 : ((l0.length : Int) : Int).toNat ≤ 281474976710656
  ·
   rw [if_pos c4] at H
   have c4b0 := eq_true c4
   have c4b1 : decide (((l0.length : Int) : Int).toNat ≤ 281474976710656) = true := decide_eq_true c4
   clear c4
   obtain ⟨y1, hy1⟩ : ∃ y_ : List Int, y_ = (List.replicate ((l0.length : Int) : Int).toNat 0) := ⟨_, rfl⟩
   replace H : (q3z.l0 k a1 y1 l0 (l0.length : Int) 0) = some r := by first | (rw [hy1]; with_reducible exact H) | (have H2_ := (Option.bind_some _ _).symm.trans H; rw [hy1]; with_reducible exact H2_) | (have H2_ := (Option.bind_some _ _).symm.trans H; with_reducible exact H2_) | with_reducible exact H | (rw [hy1]; exact H) | exact H
   have Ny1 := Aside0.mk hy1
   clear hy1
   have H' := Aside0.mk H
   clear H
   go_enter Try.func25, Try.ntmps25
   go_wp2_with (first | ((with_reducible refine gate_dst (N := 10) rfl ?_); refine Kd.R_make (Kd.int .u8) _ 5 rfl (N := 10) rfl 58 _ _ rfl (l0.length : Int) rfl rfl Try.underlying58 (.int .u8 0) 1 info5 rfl (by decide) (by omega) 0 (ok := fun _ => True) (okp := fun _ => True) rfl (fun _ hk => hk) trivial (of_decide_eq_true (by first | (with_reducible assumption) | assumption)) (Nat.le_trans (Nat.mul_le_mul_right _ (of_decide_eq_true (by first | (with_reducible assumption) | assumption) : (l0.length : Int).toNat ≤ 281474976710656)) (by omega)) (Below.refl _ _) (Nat.le_refl _) ?_; intro v2 w5 ho6 hb hg_ hnew_; clear hg_ hnew_; (first | rw [← Ny1.out] at ho6 | (simp only [Int.reduceToNat] at ho6; rw [← Ny1.out] at ho6)); have n0_ := Aside0.mk (Kd.R_lower ho6 (below_size (by repeat (first | (with_reducible first | exact HB.out | apply below_alloc | apply pw_below_drewN | apply below_drew1) | exact HB.out)))); have n1_ := Aside0.mk (below_step (by repeat (first | (with_reducible first | exact HB.out | apply below_alloc | apply pw_below_drewN | apply below_drew1) | exact HB.out)) hb); clear HB; have HO3 := n0_; have HB := n1_; clear n0_ n1_; clear hb ho6))
   go_loopg [13] k (fun kq v13 w' => ∃ (x5_1 : List Int) (x13_1 : Int), v13 = .int .i64 x13_1 ∧ Aside0 (q3z.l0 kq a1 x5_1 l0 (l0.length : Int) x13_1 = some r) ∧ Aside0 (kq ≤ k) ∧ Aside0 (Kd.R (Kd.int .u8) 5 w' w.heap.size (fun _ => True) v2 x5_1) ∧ Aside0 (Below w.heap.size w w'))
   case atStart => exact ⟨(y1), (0), (by first | rfl | (simp; done) | (simp [*]; done)), H', ⟨Nat.le_refl _⟩, ⟨by (with_reducible repeat (first | apply Kd.R_alloc | apply Kd.R_drewN | apply Kd.R_drew)); exact HO3.out⟩, ⟨by repeat (first | (with_reducible first | exact HB.out | apply below_alloc | apply pw_below_drewN | apply below_drew1) | exact HB.out)⟩⟩
   case round =>
    clear H'
    try clear c2
    try clear p2
    try clear c3
    try clear c3b0
    try clear c3b1
    try clear c4
    try clear c4b0
    try clear c4b1
    obtain ⟨x5_1, x13_1, rfl, HA, HK1, HO_5, HB⟩ := hrel
    cases gk with
    | zero => exact absurd HA.out (by simp [q3z.l0])
    | succ k1 =>
     have H := HA.out
     clear HA
     simp only [q3z.l0] at H
     by_cases c7 : x13_1 < (l0.length : Int)
     ·
      rw [if_pos c7] at H
      have c7b0 : decide (x13_1 < (l0.length : Int)) = true := decide_eq_true c7
      clear c7
      by_cases c8 : 0 ≤ x13_1
      ·
       rw [if_pos c8] at H
       have c8b0 : decide (0 ≤ x13_1) = true := decide_eq_true c8
       clear c8
       by_cases c9 : x13_1 < (l0.length : Int)
       ·
        rw [if_pos c9] at H
        have c9b0 : decide (x13_1 < (l0.length : Int)) = true := decide_eq_true c9
        clear c9
        replace H := Option.bind_eq_some_iff.mp H
        obtain ⟨t6, A100, H⟩ := H
        replace H : (if t6 = true then (if x13_1 < (x5_1.length : Int) then (q3z.l0 k1 a1 (x5_1.set (x13_1 : Int).toNat 1) l0 (l0.length : Int) (wrap64 (x13_1 + 1))) else (none)) else (q3z.l0 k1 a1 x5_1 l0 (l0.length : Int) (wrap64 (x13_1 + 1)))) = some r := H
        have A10 := Aside0.mk A100
        clear A100
        by_cases c11 : t6 = true
        ·
         subst c11
         have H1 : (if x13_1 < (x5_1.length : Int) then (q3z.l0 k1 a1 (x5_1.set (x13_1 : Int).toNat 1) l0 (l0.length : Int) (wrap64 (x13_1 + 1))) else (none)) = some r := by rw [if_pos rfl] at H; exact H
         clear H
         have H := H1
         clear H1
         by_cases c12 : x13_1 < (x5_1.length : Int)
         ·
          rw [if_pos c12] at H
          have c12b0 : decide (x13_1 < (x5_1.length : Int)) = true := decide_eq_true c12
          clear c12
          obtain ⟨y7, hy7⟩ : ∃ y_ : List Int, y_ = (x5_1.set (x13_1 : Int).toNat 1) := ⟨_, rfl⟩
          replace H : (q3z.l0 k1 a1 y7 l0 (l0.length : Int) (wrap64 (x13_1 + 1))) = some r := by first | (rw [hy7]; with_reducible exact H) | (have H2_ := (Option.bind_some _ _).symm.trans H; rw [hy7]; with_reducible exact H2_) | (have H2_ := (Option.bind_some _ _).symm.trans H; with_reducible exact H2_) | with_reducible exact H | (rw [hy7]; exact H) | exact H
          have Ny7 := Aside0.mk hy7
          clear hy7
          have H' := Aside0.mk H
          clear H
          have p4 : 0 ≤ (x13_1 : Int) := of_decide_eq_true (by first | (with_reducible assumption) | assumption)
          have q4 : x13_1 < (l0.length : Int) := of_decide_eq_true (by first | (with_reducible assumption) | assumption)
          obtain ⟨ad4, e4, hx4_0, hx4_1⟩ := at_T24 HR0.out x13_1 p4 q4
          cases e4
          replace hx4_0 := (HB.out.cell (World.block_lt_of_cell? w _ hx4_0)).trans hx4_0
          replace hx4_1 := (HB.out.cell (World.block_lt_of_cell? w _ hx4_1)).trans hx4_1
          replace p4 := eq_true p4
          replace q4 := eq_true q4
          go_wp2_with (first | ((with_reducible refine gate_dst (N := 7) rfl ?_); refine box_event ?hg (N := 7) ?hd (cs := #[.int .u32 0, .int .u32 0]) (t := 24) ?hr ?_; (case hd => rfl); (case hg => rfl); (case hr => first | (go_simp; done) | (go_simp; rfl)); intro gb5 hg w14 hbox hb; have n0_ := Aside0.mk (Kd.R_below (by (with_reducible repeat (first | apply Kd.R_alloc | apply Kd.R_drewN | apply Kd.R_drew)); exact HO_5.out) hb); have n1_ := Aside0.mk (below_step (by repeat (first | (with_reducible first | exact HB.out | apply below_alloc | apply pw_below_drewN | apply below_drew1) | exact HB.out)) hb); have n2_ := Aside0.mk (hbox); have n3_ := Aside0.mk ((by rw [hg]; exact (below_size (by repeat (first | (with_reducible first | exact HB.out | apply below_alloc | apply pw_below_drewN | apply below_drew1) | exact HB.out))) : w.heap.size ≤ gb5)); have n4_ := Aside0.mk ((by rw [hg]; exact (below_size (by repeat (first | (with_reducible first | exact HB.out | apply below_alloc | apply pw_below_drewN | apply below_drew1) | exact HB.out))) : w.heap.size ≤ gb5)); clear HO_5; clear HB; have HO_5 := n0_; have HB := n1_; have BK5 := n2_; have GW5 := n3_; have GE5 := n4_; clear n0_ n1_ n2_ n3_ n4_; clear hb hbox hg; have hcz15_0 : w14.cell? ⟨gb5, 0, none⟩ = some (.int .u32 0) := (blk_cell BK5.out 0).trans rfl; have hcz15_1 : w14.cell? ⟨gb5, 1, none⟩ = some (.int .u32 0) := (blk_cell BK5.out 1).trans rfl; have hfz15_0 := blk_frozen BK5.out 0; have hfz15_1 := blk_frozen BK5.out 1) | ((with_reducible refine gate_callee (f := 11) rfl ?_); refine goesL_ (some 20) rfl rfl Try.func11 (by kernel_rfl) rfl #[.agg #[.int .u32 ((rd_T24 l0 x13_1).f0), .int .u32 ((rd_T24 l0 x13_1).f1)], .int .u32 a1] rfl (by (try simp only [List.map_toArray, List.map_cons, List.map_nil]); first | done | rfl | (simp only [List.length_drop, List.length_take]; rfl)) ?_; (with_reducible refine (plane_In.calls ((rd_T24 l0 x13_1).f0) ((rd_T24 l0 x13_1).f1) a1 true _ A10.out).mono ?_); rintro e w16 ⟨rfl, hb⟩; refine ⟨_, rfl, ?_⟩; have n0_ := Aside0.mk (Kd.R_below (by (with_reducible repeat (first | apply Kd.R_alloc | apply Kd.R_drewN | apply Kd.R_drew)); exact (Kd.R_mono (Kd.R_far (p := ⟨gb5, 1, none⟩) (Kd.R_far (p := ⟨gb5, 0, none⟩) (Kd.R_types HO_5.out BK5.out (by decide)) (fun _ hk => hk.2) (.int .u32 ((rd_T24 l0 x13_1).f0))) (fun _ hk => hk.2) (.int .u32 ((rd_T24 l0 x13_1).f1))) (fun _ h_ => h_.1))) hb); have n1_ := Aside0.mk (blk_below (g := gb5) (o := .cells #[.int .u32 ((rd_T24 l0 x13_1).f0), .int .u32 ((rd_T24 l0 x13_1).f1)] 24 (0, 0)) (by (with_reducible repeat (first | refine blk_drewN ?_ _ | refine blk_drew ?_ | refine blk_alloc ?_ _)); refine blk_put (cs := #[.int .u32 ((rd_T24 l0 x13_1).f0), .int .u32 0]) ?_ 1 _ rfl; (with_reducible repeat (first | refine blk_drewN ?_ _ | refine blk_drew ?_ | refine blk_alloc ?_ _)); refine blk_put (cs := #[.int .u32 0, .int .u32 0]) ?_ 0 _ rfl; (with_reducible repeat (first | refine blk_drewN ?_ _ | refine blk_drew ?_ | refine blk_alloc ?_ _)); exact BK5.out) hb); have n2_ := Aside0.mk (below_step (by repeat (first | (with_reducible first | exact HB.out | apply below_alloc | apply pw_below_drewN | apply below_drew1 | refine below_set ?_ GE5.out) | exact HB.out)) hb); clear HO_5; clear BK5; clear HB; have HO_5 := n0_; have BK5 := n1_; have HB := n2_; clear n0_ n1_ n2_; (try clear hb); (try clear hb2); (try clear hk); (try clear hi); have p13 : 0 ≤ (x13_1 : Int) := of_decide_eq_true (by first | (with_reducible assumption) | assumption); have q13 : (x13_1 : Int) < ((x5_1.length : Int) : Int) := of_decide_eq_true (by first | (with_reducible assumption) | assumption); obtain ⟨go13, co13, eo13, gb13, gl13, cl13, HG13⟩ := Kd.R_form HO_5.out (by omega); (first | cases eo13 | (injection eo13 with ea_ en_ ec_; (first | subst ea_ | (injection ea_ with ea_; subst ea_)); subst ec_; clear en_)); have GB13 := Aside0.mk gb13; have GG13 := Aside0.mk HG13; clear gb13 gl13 HG13; obtain ⟨hx13_0, hf13_0⟩ := Kd.R_celln 0 HO_5.out (x13_1 : Int) p13 q13; replace p13 := eq_true p13; replace q13 := eq_true q13; obtain ⟨hy17_, hz17_⟩ := Kd.R_celln 0 HO_5.out (x13_1 : Int) (of_decide_eq_true (by first | (with_reducible assumption) | assumption)) (of_decide_eq_true (by first | (with_reducible assumption) | assumption)); have HP17 := Kd.R_putg HO_5.out (x13_1 : Int) 1) | ((with_reducible refine gate_store (t := 5) (p := 23) rfl ?_); refine store_event (t := 5) (p := 23) (v := ?vo_w18) (w1 := (w16.setCell ⟨go13, (x13_1 : Int).toNat, none⟩ (.int .u8 1))) ?hg ?ho ?hn ?hr ?_; (case ho => rfl); (case hg => rfl); (case hn => rfl); (case hr => first | (go_simp; done) | (go_simp; rfl)); intro w18 hw; have hg : w16.grownBy w18 (some go13) := (by rw [hw]; exact HP17.2); have hp_ : Kd.R (Kd.int .u8) 5 w18 w.heap.size (fun _ => True) (.slice (some ⟨go13, 0, none⟩) x5_1.length co13) y7 := (by rw [hw, Ny7.out]; exact HP17.1); clear HP17; have n0_ := Aside0.mk (hp_); have n1_ := Aside0.mk (blk_grown (g := gb5) (o := .cells #[.int .u32 ((rd_T24 l0 x13_1).f0), .int .u32 ((rd_T24 l0 x13_1).f1)] 24 (0, 0)) (by (with_reducible repeat (first | refine blk_drewN ?_ _ | refine blk_drew ?_ | refine blk_alloc ?_ _)); exact BK5.out) hg (Kd.R_ne HO_5.out BK5.out (by decide))); have n2_ := Aside0.mk ((by rw [hw]; exact below_set (HB.out) GB13.out : Below w.heap.size w w18)); clear HO_5; clear BK5; clear HB; have HO_5 := n0_; have BK5 := n1_; have HB := n2_; clear n0_ n1_ n2_; clear hg hw hp_))
          go_roundg k1
          case measure => have := HK1.out; omega
          case rel => exact ⟨(y7), (wrap64 (x13_1 + 1)), (by first | rfl | (simp; done) | (simp [*]; done)), H', ⟨by have := HK1.out; omega⟩, ⟨by (with_reducible repeat (first | apply Kd.R_alloc | apply Kd.R_drewN | apply Kd.R_drew)); exact HO_5.out⟩, ⟨by repeat (first | (with_reducible first | exact HB.out | apply below_alloc | apply pw_below_drewN | apply below_drew1 | refine below_set ?_ GE5.out) | exact HB.out)⟩⟩
         ·
          rw [if_neg c12] at H
          exact absurd H (by simp)
        ·
         replace c11 := Bool.eq_false_iff.mpr c11
         subst c11
         have H1 : (q3z.l0 k1 a1 x5_1 l0 (l0.length : Int) (wrap64 (x13_1 + 1))) = some r := by rw [if_neg (show ¬ (false = true) by decide)] at H; exact H
         clear H
         have H := H1
         clear H1
         have H' := Aside0.mk H
         clear H
         have p4 : 0 ≤ (x13_1 : Int) := of_decide_eq_true (by first | (with_reducible assumption) | assumption)
         have q4 : x13_1 < (l0.length : Int) := of_decide_eq_true (by first | (with_reducible assumption) | assumption)
         obtain ⟨ad4, e4, hx4_0, hx4_1⟩ := at_T24 HR0.out x13_1 p4 q4
         cases e4
         replace hx4_0 := (HB.out.cell (World.block_lt_of_cell? w _ hx4_0)).trans hx4_0
         replace hx4_1 := (HB.out.cell (World.block_lt_of_cell? w _ hx4_1)).trans hx4_1
         replace p4 := eq_true p4
         replace q4 := eq_true q4
         go_wp2_with (first | ((with_reducible refine gate_dst (N := 7) rfl ?_); refine box_event ?hg (N := 7) ?hd (cs := #[.int .u32 0, .int .u32 0]) (t := 24) ?hr ?_; (case hd => rfl); (case hg => rfl); (case hr => first | (go_simp; done) | (go_simp; rfl)); intro gb5 hg w19 hbox hb; have n0_ := Aside0.mk (Kd.R_below (by (with_reducible repeat (first | apply Kd.R_alloc | apply Kd.R_drewN | apply Kd.R_drew)); exact HO_5.out) hb); have n1_ := Aside0.mk (below_step (by repeat (first | (with_reducible first | exact HB.out | apply below_alloc | apply pw_below_drewN | apply below_drew1) | exact HB.out)) hb); have n2_ := Aside0.mk (hbox); have n3_ := Aside0.mk ((by rw [hg]; exact (below_size (by repeat (first | (with_reducible first | exact HB.out | apply below_alloc | apply pw_below_drewN | apply below_drew1) | exact HB.out))) : w.heap.size ≤ gb5)); have n4_ := Aside0.mk ((by rw [hg]; exact (below_size (by repeat (first | (with_reducible first | exact HB.out | apply below_alloc | apply pw_below_drewN | apply below_drew1) | exact HB.out))) : w.heap.size ≤ gb5)); clear HO_5; clear HB; have HO_5 := n0_; have HB := n1_; have BK5 := n2_; have GW5 := n3_; have GE5 := n4_; clear n0_ n1_ n2_ n3_ n4_; clear hb hbox hg; have hcz20_0 : w19.cell? ⟨gb5, 0, none⟩ = some (.int .u32 0) := (blk_cell BK5.out 0).trans rfl; have hcz20_1 : w19.cell? ⟨gb5, 1, none⟩ = some (.int .u32 0) := (blk_cell BK5.out 1).trans rfl; have hfz20_0 := blk_frozen BK5.out 0; have hfz20_1 := blk_frozen BK5.out 1) | ((with_reducible refine gate_callee (f := 11) rfl ?_); refine goesL_ (some 20) rfl rfl Try.func11 (by kernel_rfl) rfl #[.agg #[.int .u32 ((rd_T24 l0 x13_1).f0), .int .u32 ((rd_T24 l0 x13_1).f1)], .int .u32 a1] rfl (by (try simp only [List.map_toArray, List.map_cons, List.map_nil]); first | done | rfl | (simp only [List.length_drop, List.length_take]; rfl)) ?_; (with_reducible refine (plane_In.calls ((rd_T24 l0 x13_1).f0) ((rd_T24 l0 x13_1).f1) a1 false _ A10.out).mono ?_); rintro e w21 ⟨rfl, hb⟩; refine ⟨_, rfl, ?_⟩; have n0_ := Aside0.mk (Kd.R_below (by (with_reducible repeat (first | apply Kd.R_alloc | apply Kd.R_drewN | apply Kd.R_drew)); exact (Kd.R_mono (Kd.R_far (p := ⟨gb5, 1, none⟩) (Kd.R_far (p := ⟨gb5, 0, none⟩) (Kd.R_types HO_5.out BK5.out (by decide)) (fun _ hk => hk.2) (.int .u32 ((rd_T24 l0 x13_1).f0))) (fun _ hk => hk.2) (.int .u32 ((rd_T24 l0 x13_1).f1))) (fun _ h_ => h_.1))) hb); have n1_ := Aside0.mk (blk_below (g := gb5) (o := .cells #[.int .u32 ((rd_T24 l0 x13_1).f0), .int .u32 ((rd_T24 l0 x13_1).f1)] 24 (0, 0)) (by (with_reducible repeat (first | refine blk_drewN ?_ _ | refine blk_drew ?_ | refine blk_alloc ?_ _)); refine blk_put (cs := #[.int .u32 ((rd_T24 l0 x13_1).f0), .int .u32 0]) ?_ 1 _ rfl; (with_reducible repeat (first | refine blk_drewN ?_ _ | refine blk_drew ?_ | refine blk_alloc ?_ _)); refine blk_put (cs := #[.int .u32 0, .int .u32 0]) ?_ 0 _ rfl; (with_reducible repeat (first | refine blk_drewN ?_ _ | refine blk_drew ?_ | refine blk_alloc ?_ _)); exact BK5.out) hb); have n2_ := Aside0.mk (below_step (by repeat (first | (with_reducible first | exact HB.out | apply below_alloc | apply pw_below_drewN | apply below_drew1 | refine below_set ?_ GE5.out) | exact HB.out)) hb); clear HO_5; clear BK5; clear HB; have HO_5 := n0_; have BK5 := n1_; have HB := n2_; clear n0_ n1_ n2_; (try clear hb); (try clear hb2); (try clear hk); (try clear hi)))
         go_roundg k1
         case measure => have := HK1.out; omega
         case rel => exact ⟨(x5_1), (wrap64 (x13_1 + 1)), (by first | rfl | (simp; done) | (simp [*]; done)), H', ⟨by have := HK1.out; omega⟩, ⟨by (with_reducible repeat (first | apply Kd.R_alloc | apply Kd.R_drewN | apply Kd.R_drew)); exact HO_5.out⟩, ⟨by repeat (first | (with_reducible first | exact HB.out | apply below_alloc | apply pw_below_drewN | apply below_drew1 | refine below_set ?_ GE5.out) | exact HB.out)⟩⟩
       ·
        rw [if_neg c9] at H
        exact absurd H (by simp)
      ·
       rw [if_neg c8] at H
       exact absurd H (by simp)
     ·
      rw [if_neg c7] at H
      have c7b0 : decide (x13_1 < (l0.length : Int)) = false := decide_eq_false c7
      clear c7
      obtain rfl := Option.some.inj H
      have hcv22 := own_string (P := Try.prog) Try.underlying58 Try.underlying5 Try.underlying9 (Kd.own_of_R HO_5.out)
      go_wp2
      go_ret
      exact ⟨by first | rfl | (simp [errW_none, errW_some] <;> rfl) | (simp [*, errW_none, errW_some] <;> rfl), by repeat (first | (with_reducible first | exact HB.out | apply below_alloc | apply pw_below_drewN | apply below_drew1) | exact HB.out)⟩
  ·
   rw [if_neg c4] at H
   exact absurd H (by simp)
 ·
  rw [if_neg c3] at H
  exact absurd H (by simp)

end Go.Proofs.Ytdkbfcogmlghfaa.P

namespace Go.Proofs.Ytdkbfcogmlghfaa.P
open Go.RowKit Go.Proofs.YtdkbfcogmlghfaaW.PrintWords Go.Proofs.YtdkbfcogmlghfaaW.PrintLast Go.Proofs.YtdkbfcogmlghfaaW.PrintMore
attribute [local go_sem] max2_int min2_int max_two min_two max_three min_three max_four min_four
set_option linter.unusedVariables false
set_option linter.unusedSimpArgs false

/-! ### plane_Cells: function 12 -/
def cells_half.l0 : Nat → List Int → List Int → List (S24) → Int → Int → Option (List Int × List Int)
  | 0, _, _, _, _, _ => none
  | k + 1, x4, x5, x23, x24, x25 => if x25 < x24 then (if 0 ≤ x25 then (if x25 < (x23.length : Int) then ((some (([(Int.tdiv ((rd_T24 x23 x25).f0) 65536) % 4294967296] : List Int) : List Int)).bind fun y11 => (if x4.length + y11.length < 35184372088832 then ((some (x4 ++ y11 : List Int)).bind fun y14 => ((some (([Int.tmod ((rd_T24 x23 x25).f0) 65536] : List Int) : List Int)).bind fun y17 => (if x5.length + y17.length < 35184372088832 then ((some (x5 ++ y17 : List Int)).bind fun y20 => (if (((Int.tdiv ((rd_T24 x23 x25).f1) 65536) + 1) % 4294967296) < 65536 then ((some (([((Int.tdiv ((rd_T24 x23 x25).f1) 65536) + 1) % 4294967296] : List Int) : List Int)).bind fun y23 => (if y14.length + y23.length < 35184372088832 then ((some (y14 ++ y23 : List Int)).bind fun y26 => (if (((Int.tmod ((rd_T24 x23 x25).f1) 65536) + 1) % 4294967296) < 65536 then ((some (([((Int.tmod ((rd_T24 x23 x25).f1) 65536) + 1) % 4294967296] : List Int) : List Int)).bind fun y29 => (if y20.length + y29.length < 35184372088832 then (cells_half.l0 k y26 (y20 ++ y29) x23 x24 (wrap64 (x25 + 1))) else (none))) else (cells_half.l0 k y26 y20 x23 x24 (wrap64 (x25 + 1))))) else (none))) else (if (((Int.tmod ((rd_T24 x23 x25).f1) 65536) + 1) % 4294967296) < 65536 then ((some (([((Int.tmod ((rd_T24 x23 x25).f1) 65536) + 1) % 4294967296] : List Int) : List Int)).bind fun y35 => (if y20.length + y35.length < 35184372088832 then (cells_half.l0 k y14 (y20 ++ y35) x23 x24 (wrap64 (x25 + 1))) else (none))) else (cells_half.l0 k y14 y20 x23 x24 (wrap64 (x25 + 1)))))) else (none)))) else (none))) else (none)) else (none)) else ((Sort_u32.f k x4).bind fun t7 => ((Sort_u32.f k x5).bind fun t8 => (some (t7, t8))))
def cells_half.f (k : Nat) (l0 : List (S24)) : Option (List Int × List Int) := cells_half.l0 k (([0] : List Int)) (([0] : List Int)) l0 (l0.length : Int) 0
theorem cells_half.mono_l : ∀ k, (∀ y0 y1 y2 y3 y4, LeO (cells_half.l0 k y0 y1 y2 y3 y4) (cells_half.l0 (k + 1) y0 y1 y2 y3 y4))
  | 0 => fun _ _ _ _ _ r h => by simp [cells_half.l0] at h
  | k + 1 => by
    have ih0 := cells_half.mono_l k
    · intro y0 y1 y2 y3 y4
      unfold cells_half.l0
      repeat' first
      | (with_reducible exact ih0 _ _ _ _ _)
      | (with_reducible exact Sort_u32.mono _ _)
      | (with_reducible exact LeO.refl _)
      | (with_reducible exact LeO.none _)
      | (with_reducible refine LeO.ite ?_ ?_)
      | (with_reducible refine LeO.bind ?_ (fun _ => ?_))
      | exact ih0 _ _ _ _ _
      | exact Sort_u32.mono _ _
      | exact LeO.none _
      | refine LeO.ite ?_ ?_
      | refine LeO.bind ?_ (fun _ => ?_)
theorem cells_half.mono : ∀ a0 k, LeO (cells_half.f k a0) (cells_half.f (k + 1) a0) := by
  intro a0 k
  have ih0 := cells_half.mono_l k
  unfold cells_half.f
  repeat' first
      | (with_reducible exact ih0 _ _ _ _ _)
      | (with_reducible exact Sort_u32.mono _ _)
      | (with_reducible exact LeO.refl _)
      | (with_reducible exact LeO.none _)
      | (with_reducible refine LeO.ite ?_ ?_)
      | (with_reducible refine LeO.bind ?_ (fun _ => ?_))
      | exact ih0 _ _ _ _ _
      | exact Sort_u32.mono _ _
      | exact LeO.none _
      | refine LeO.ite ?_ ?_
      | refine LeO.bind ?_ (fun _ => ?_)
def cells_half.T7 : Bool × List (List Nat × List Nat) := (true, [([], []), ([], []), ([1], [1]), ([2], [2]), ([3], [3]), ([0, 4], [0, 4]), ([], []), ([], []), ([7], [7]), ([8], [8]), ([9], [9]), ([6, 10, 5], [6, 10]), ([5, 11, 0, 1, 2, 3, 4, 5], [0, 5]), ([11, 12, 0, 1, 2, 3, 4, 5, 6, 7, 8, 9, 10, 11, 12], [6, 11])])
def cells_half.B7 : List Nat := [0, 0, 2, 6, 14, 31, 0, 0, 128, 384, 896, 2047, 4095, 8191]
theorem cells_half.tab7 : rtab .any (opsOf Try.f12 7) = cells_half.T7 := by kernel_rfl
theorem cells_half.bits7 : waitsOk cells_half.T7.2 cells_half.B7 = true := by kernel_rfl
/-- One row of cells: of each kind the first. -/
def cellsRow (k : Nat) (l : List S24) (x : Int) : List Int → List (List UInt8) → List Int → Option (List (List UInt8) × List Int)
  | [], seen, out => some (seen, out)
  | y :: r, seen, out => (q3z.f k l ((x * 65536 + y) % 4294967296)).bind fun kd => if kd.size ≤ 35184372088832 then (if decide (kd.data.toList ∈ seen) = true then cellsRow k l x r seen out else (if out.length < 35184372088832 then cellsRow k l x r (kd.data.toList :: seen) (out ++ [(x * 65536 + y) % 4294967296]) else none)) else none
def cellsAll (k : Nat) (l : List S24) (ys : List Int) : List Int → List (List UInt8) → List Int → Option (List Int)
  | [], _, out => some out
  | x :: r, seen, out => (Clone_u32.f ys).bind fun yc => (Compact_u32.f yc).bind fun yy => (cellsRow k l x yy seen out).bind fun t => cellsAll k l ys r t.1 t.2
def cellsTail (k : Nat) (l : List S24) (xs ys : List Int) : Option (List Int) := (Compact_u32.f xs).bind fun cx => cellsAll k l ys cx [] []
theorem rdN (l : List Int) (i : Nat) (h : i < l.length) : rd l (i : Int) = l[i] := by
  unfold rd
  rw [Int.toNat_natCast, List.getD_eq_getElem?_getD, List.getElem?_eq_getElem h]
  rfl
theorem R_fresh {α β : Type} {d : Kd α} {d' : Kd β} {e e' base : Nat} {W W2 : World} {u v vo : Value} {xs : List α} {xo : List β} (h : d.R e W2 base (fun k => some k = u.ownBlock ∨ W.heap.size ≤ k) v xs) (ho : d'.R e' W base (fun k => True ∧ some k ≠ u.ownBlock) vo xo) : d.R e W2 base (fun k => True ∧ some k ≠ vo.ownBlock) v xs :=
  Kd.R_mono h (fun k hk => ⟨trivial, fun he => by
    have q := (Kd.R_bound ho).1 k he.symm
    rcases hk with hk | hk
    · exact q.1.2 hk
    · have := q.2.2.1
      omega⟩)
theorem SetAt.keptP {w w' : World} {B : Nat} {seen : List (List UInt8)} {S : Nat → Prop} (h : SetAt w B seen) (hk : Kept w w' S) (hn : ¬ S B) : SetAt w' B seen := by
  obtain ⟨D, h1, h2, h3⟩ := h
  have hlt := h1.lt
  obtain ⟨es, clock, hb, F, hs, hD⟩ := h1
  exact ⟨D, ⟨es, clock, (hk.2 B hlt hn).trans hb, F, hs, hD⟩, h2, h3⟩
theorem Am {p : Prop} (h : p) : Aside0 p := Aside0.mk h
section
variable {α : Type} {d : Kd α} {e base : Nat} {ok : Nat → Prop} {w : World} {v : Value} {xs : List α}
theorem rA (h : d.R e w base ok v xs) (o : Obj) : d.R e (w.alloc o) base ok v xs := Kd.R_alloc h o
theorem rN (h : d.R e w base ok v xs) (n : Nat) : d.R e (w.drewN n) base ok v xs := Kd.R_drewN h n
theorem rD (h : d.R e w base ok v xs) : d.R e w.drew base ok v xs := Kd.R_drew h
theorem rM {ok' : Nat → Prop} (h : d.R e w base ok v xs) (hok : ∀ k, ok k → ok' k) : d.R e w base ok' v xs := Kd.R_mono h hok
theorem rL (h : d.R e w base ok v xs) : ∀ k, v.ownBlock = some k → k < w.heap.size := Kd.R_lt h
theorem lA {w W : World} (h : Below w.heap.size w W) (o : Obj) : Below w.heap.size w (W.alloc o) := below_alloc h o
theorem lN {B : Nat} {w W : World} (h : Below B w W) (n : Nat) : Below B w (W.drewN n) := pw_below_drewN h n
theorem lD {B : Nat} {w W : World} (h : Below B w W) : Below B w W.drew := below_drew1 h
end
end Go.Proofs.Ytdkbfcogmlghfaa.P
