/- Part of the proof of the law SpanCuts: the functions that it reaches, by contract. -/
import Derived.Test.YtconaifcjnpabaaProg
import Derived.Below
import Derived.Deep.Draws
import Derived.Deep.AppendLies
import Derived.Maps.AppendAt
import Derived.OwnWalk
import Derived.Laws.BytesArg
import Derived.Laws.MakeOwn
import Derived.Laws.OwnMore
import Derived.Deep.OwnRows
import Derived.Tactics
import Derived.Lib.ConvBytes
import Derived.Laws.Slices
import Derived.WalkKit
import Derived.KernelRfl
import Derived.RowKit3
import Derived.Deep.LoopGhost
import Derived.Deep.QuietTactic
import Derived.BigQuiet
import Derived.WideLaws
import Derived.Deep.DeepCutAuto
import Derived.Deep.CutBlock
import Derived.Deep.RegionHeld3
import Derived.Laws.Rows
import Derived.Lib.AppendStr
import Derived.ArgAppend
import Derived.Laws.IdiomCopy
import Derived.OrdersHeld
import Derived.Laws.BitsLemmas
import Derived.RowKit
import Derived.WalkMore
import Derived.Test.YtconaifcjnpabaaCSpanCutsVWords
import Derived.Test.YtconaifcjnpabaaCSpanCutsVLast
import Derived.Test.YtconaifcjnpabaaCSpanCutsVTab
import Derived.Test.YtconaifcjnpabaaCSpanCutsVQPut
import Derived.Test.YtconaifcjnpabaaCSpanCutsVApart
import Derived.Test.YtconaifcjnpabaaCSpanCutsVArr
import Derived.Test.YtconaifcjnpabaaCSpanCutsVZeros
import Derived.Test.YtconaifcjnpabaaCSpanCutsVFoot
import Derived.Test.YtconaifcjnpabaaCSpanCutsVKept
import Derived.Test.YtconaifcjnpabaaCSpanCutsVShare
import Derived.Test.YtconaifcjnpabaaCSpanCutsVN
import Derived.Test.YtconaifcjnpabaaCSpanCutsVEqStruct
import Derived.Test.YtconaifcjnpabaaCSpanCutsVRepsOne
import Derived.Test.YtconaifcjnpabaaCSpanCutsVInv
import Derived.Test.YtconaifcjnpabaaCSpanCutsVGuard
import Derived.Test.YtconaifcjnpabaaCSpanCutsVNEv
import Derived.Test.YtconaifcjnpabaaCSpanCutsVMore
import Derived.Lib.Hide
import Derived.Shelf.GgSortFunc.RowK
import Derived.Shelf.SlicesE.Compact
import Derived.Shelf.SlSortCmp.Kit1
import Derived.Sort.WalkC4
import Derived.Sort.WalkB12
import Derived.Sort.AssemblyPlain
import Derived.RegionTactic
import Derived.Sort.WalkB3
import Derived.Sort.LotD4
import Derived.Sort.Walk7
import Derived.Shelf.SlSortCmp.Xorshift
import Derived.Sort.Walk13a
import Derived.Sort.LotB
import Derived.Deep.Cut
import Derived.Lib.BitFns
import Derived.Sort.WalkA14
import Derived.Shelf.SlSortCmp.Insertion
import Derived.Shelf.SlSortCmp.WholeK
import Derived.Shelf.SlSortCmp.NoneTotal
namespace Go.Proofs.Ytconaifcjnpabaa.P
open Go.RowKit Go.Proofs.YtconaifcjnpabaaW.PrintWords Go.Proofs.YtconaifcjnpabaaW.PrintLast Go.Proofs.YtconaifcjnpabaaW.PrintMore
attribute [local go_sem] max2_int min2_int max_two min_two max_three min_three max_four min_four
set_option linter.unusedVariables false
set_option linter.unusedSimpArgs false

def errW : Option Int → Value
  | none => .nilIface
  | some c => .iface 0 (.int .i64 c)
theorem errW_none : errW none = .nilIface := rfl
theorem errW_some (c : Int) : errW (some c) = .iface 0 (.int .i64 c) := rfl

theorem info24 : (Try.prog.info? 24).map (fun i => (i.zero, i.size, i.bytes)) = some (some (.slice none 0 0), 1, 24) := by kernel_rfl
theorem info29 : (Try.prog.info? 29).map (fun i => (i.zero, i.size, i.bytes)) = some (some (.int .u32 0), 1, 4) := by kernel_rfl
theorem info33 : (Try.prog.info? 33).map (fun i => (i.zero, i.size, i.bytes)) = some (some (.agg #[(.int .u32 0), (.int .u32 0)]), 2, 8) := by kernel_rfl
/-! #### struct type 33 -/
structure S33 where
  f0 : Int
  f1 : Int
def z33 : S33 := ⟨(0 : Int), (0 : Int)⟩
def k33 : Kd S33 := Kd.iso (Kd.pair (Kd.int .u32) (Kd.int .u32)) (fun x : S33 => (x.f0, x.f1))
theorem k33_open {w : World} {x : S33} {cs : List Value} (h : k33.K w x cs) : cs = [.int .u32 x.f0, .int .u32 x.f1] := by
  obtain ⟨_, _, rfl, rfl, rfl⟩ := h
  exact rfl
theorem k33_openM {w : World} {base : Nat} {ok : Nat → Prop} {x : S33} {cs : List Value} (h : k33.M w base ok x cs) : cs = [.int .u32 x.f0, .int .u32 x.f1] := by
  obtain ⟨_, _, rfl, rfl, rfl⟩ := h
  exact rfl
theorem k33_mk (w : World) (x : S33)  : k33.K w x [.int .u32 x.f0, .int .u32 x.f1] := ⟨[.int .u32 x.f0], [.int .u32 x.f1], rfl, rfl, rfl⟩
theorem k33_mkM (w : World) (base : Nat) (ok : Nat → Prop) (x : S33)  : k33.M w base ok x [.int .u32 x.f0, .int .u32 x.f1] := ⟨[.int .u32 x.f0], [.int .u32 x.f1], rfl, rfl, rfl⟩
theorem k33_mkF (W : World) (ok : Nat → Prop) (x : S33) : Kd.FK k33 W ok x [.int .u32 x.f0, .int .u32 x.f1] := fun W2 _ => k33_mk W2 x
def rd_T33 (xs : List S33) (i : Int) : S33 := xs.getD i.toNat z33
theorem at_T33 {w : World} {A : Option Addr} {n : Nat} {xs : List S33} (h : Kd.C k33 w A n xs) (i : Int) (h0 : 0 ≤ i) (h1 : i < n) : ∃ ad , A = some ad ∧ w.cell? (ad.add (i.toNat * 2)) = some (.int .u32 (rd_T33 xs i).f0) ∧ w.cell? ⟨(ad.add (i.toNat * 2)).block, (ad.add (i.toNat * 2)).off + 1, none⟩ = some (.int .u32 (rd_T33 xs i).f1) := by
  obtain ⟨ad, c, e, _, hK, hc0⟩ := Kd.C_get h z33 i h0 h1
  have hc : ∀ j u, c[j]? = some u → w.cell? (ad.add (i.toNat * 2 + j)) = some u := hc0
  obtain rfl := k33_open hK
  exact ⟨ad, e, hc 0 _ rfl, by rw [← add_field _ _ 1 (by omega)]; exact hc 1 _ rfl⟩

def rd_L2 (xs : List (List S33)) (i : Int) : (List S33) := xs.getD i.toNat ([] : List S33)
theorem at_L2 {w : World} {A : Option Addr} {n : Nat} {xs : List (List S33)} (h : Kd.C (Kd.slice 33 k33) w A n xs) (i : Int) (h0 : 0 ≤ i) (h1 : i < n) : ∃ ad A0 c0, A = some ad ∧ w.cell? (ad.add i.toNat) = some (.slice A0 (rd_L2 xs i).length c0) ∧ (rd_L2 xs i).length ≤ c0 ∧ k33.C w A0 (rd_L2 xs i).length (rd_L2 xs i) := by
  obtain ⟨ad, c, e, _, hK, hc0⟩ := Kd.C_get h ([] : List S33) i h0 h1
  have hc : ∀ j u, c[j]? = some u → w.cell? (ad.add (i.toNat * 1 + j)) = some u := hc0
  obtain ⟨A0, c0, rfl, l0, g0⟩ := hK
  exact ⟨ad, A0, c0, e, by have hq := hc 0 _ rfl; rwa [Nat.mul_one, Nat.add_zero] at hq, l0, g0⟩

def rd_L3 (xs : List (List Int)) (i : Int) : (List Int) := xs.getD i.toNat ([] : List Int)
theorem at_L3 {w : World} {A : Option Addr} {n : Nat} {xs : List (List Int)} (h : Kd.C (Kd.slice 29 (Kd.int .u32)) w A n xs) (i : Int) (h0 : 0 ≤ i) (h1 : i < n) : ∃ ad A0 c0, A = some ad ∧ w.cell? (ad.add i.toNat) = some (.slice A0 (rd_L3 xs i).length c0) ∧ (rd_L3 xs i).length ≤ c0 ∧ (Kd.int .u32).C w A0 (rd_L3 xs i).length (rd_L3 xs i) := by
  obtain ⟨ad, c, e, _, hK, hc0⟩ := Kd.C_get h ([] : List Int) i h0 h1
  have hc : ∀ j u, c[j]? = some u → w.cell? (ad.add (i.toNat * 1 + j)) = some u := hc0
  obtain ⟨A0, c0, rfl, l0, g0⟩ := hK
  exact ⟨ad, A0, c0, e, by have hq := hc 0 _ rfl; rwa [Nat.mul_one, Nat.add_zero] at hq, l0, g0⟩

end Go.Proofs.Ytconaifcjnpabaa.P

namespace Go.Proofs.Ytconaifcjnpabaa.P
open Go.RowKit Go.Proofs.YtconaifcjnpabaaW.PrintWords Go.Proofs.YtconaifcjnpabaaW.PrintLast Go.Proofs.YtconaifcjnpabaaW.PrintMore
set_option linter.unusedVariables false

/-- What the closure of span.In says of a span. -/
def inSpan (n : Int) (s : S33) : Bool := decide (s.f0 ≤ n) && decide (n ≤ s.f1)
def span_In.f (l0 : List S33) (a1 : Int) : Option Bool := if l0.length ≤ 9223372036854775807 then some (l0.any (inSpan a1)) else none

theorem in_closure (n : Int) (B : Nat) (x : S33) (W : World) (hB : B < W.heap.size) (hc : W.cell? ⟨B, 0, none⟩ = some (.int .u32 n)) :
    Calls Try.prog 30 #[.agg #[.int .u32 x.f0, .int .u32 x.f1], .pointer (some ⟨B, 0, none⟩)] W fun e w' => e = .returned (.bool (inSpan n x)) ∧ Below W.heap.size W w' := by
  have hu33 := Try.underlying33
  have hne : B ≠ W.heap.size := by omega
  unfold inSpan
  by_cases h1 : x.f0 ≤ n
  · have d1 : decide (x.f0 ≤ n) = true := decide_eq_true h1
    go_enter Try.func30, Try.ntmps30
    go_wp2
    all_goals (go_ret; exact ⟨by simp_all, (Below.refl _ _).alloc (Nat.le_refl _) _⟩)
  · have d1 : decide (x.f0 ≤ n) = false := decide_eq_false h1
    go_enter Try.func30, Try.ntmps30
    go_wp2
    all_goals (go_ret; exact ⟨by simp_all, (Below.refl _ _).alloc (Nat.le_refl _) _⟩)

/-- What IndexFunc's loop has come to. -/
def NoneTill (p : S33 → Bool) (l : List S33) (k : Nat) : Prop := ∀ j, j < k → p (l.getD j z33) = false
theorem any_of_none (p : S33 → Bool) (l : List S33) (h : NoneTill p l l.length) : l.any p = false := by
  rw [List.any_eq_false]
  intro x hx
  obtain ⟨j, hj, rfl⟩ := List.getElem_of_mem hx
  have := h j hj
  rw [List.getD_eq_getElem?_getD, List.getElem?_eq_getElem hj] at this
  simpa using this
theorem any_of_some (p : S33 → Bool) (l : List S33) (k : Nat) (hk : k < l.length) (h : p (l.getD k z33) = true) : l.any p = true := by
  rw [List.any_eq_true]
  refine ⟨l[k], List.getElem_mem hk, ?_⟩
  rw [List.getD_eq_getElem?_getD, List.getElem?_eq_getElem hk] at h
  simpa using h
def IdxPost (p : S33 → Bool) (l : List S33) (w : World) (e : Ending) (w' : World) : Prop := ∃ i : Int, e = .returned (.int .i64 i) ∧ decide (i ≥ 0) = l.any p ∧ Below w.heap.size w w'

set_option maxHeartbeats 1000000 in
theorem in_index (n : Int) (B : Nat) (w : World) (hB : B < w.heap.size) (hcB : w.cell? ⟨B, 0, none⟩ = some (.int .u32 n)) (A0 : Option Addr) (c0 : Nat) (l0 : List (S33)) (hr0 : Kd.C k33 w A0 l0.length l0) (hl : l0.length ≤ 9223372036854775807) :
    Calls Try.prog 38 #[.slice A0 l0.length c0, .func (.func 30) #[] #[.pointer (some ⟨B, 0, none⟩)]] w (IdxPost (inSpan n) l0 w) := by
  have hu33 := Try.underlying33
  have HC := Go.Lib.hid hcB
  clear hcB
  have HR := Go.Lib.hid hr0
  clear hr0
  go_enter Try.func38, Try.ntmps38
  go_wp2
  go_loopw [8] (fun i wr => ∃ k : Nat, k ≤ l0.length ∧ i = .int .i64 k ∧ NoneTill (inSpan n) l0 k ∧ Below w.heap.size w wr) (fun i _ => l0.length - (intOf i).toNat)
  case atStart => exact ⟨0, Nat.zero_le _, rfl, fun j hj => absurd hj (Nat.not_lt_zero j), Below.refl _ _⟩
  case round =>
    obtain ⟨k, hk, rfl, hn, hb⟩ := hrel
    have HN := Go.Lib.hid hn
    clear hn
    have HBb := Go.Lib.hid hb
    clear hb
    by_cases hlt : k < l0.length
    · obtain ⟨ad, e0, h0, h1⟩ := at_T33 (Kd.C_below HR.out HBb.out) (k : Int) (by omega) (by omega)
      rw [Int.toNat_natCast] at h0 h1
      generalize hx : rd_T33 l0 (k : Int) = x at h0 h1
      have HX := Go.Lib.hid hx
      clear hx
      obtain rfl := e0
      have hBr : B < wr.heap.size := Nat.lt_of_lt_of_le hB HBb.out.size
      have hcr := (HBb.out.cell (p := ⟨B, 0, none⟩) hB).trans HC.out
      have hcl := in_closure n B x wr hBr hcr
      clear hcr
      have HCL := Go.Lib.hid hcl
      clear hcl
      by_cases hpx : inSpan n x = true
      · have HP := Go.Lib.hid hpx
        go_wp2_with (go_at_call 30; refine (HCL.out).mono ?_; rw [HP.out]; rintro e w' ⟨rfl, hb'⟩)
        clear hpx
        go_ret
        exact ⟨k, rfl, by rw [any_of_some (inSpan n) l0 k hlt (by have := HX.out; unfold rd_T33 at this; rw [Int.toNat_natCast] at this; rw [this]; exact HP.out)]; simp, HBb.out.trans (hb'.mono HBb.out.size)⟩
      · have hpx' : inSpan n x = false := by simpa using hpx
        clear hpx
        have HP := Go.Lib.hid hpx'
        go_wp2_with (go_at_call 30; refine (HCL.out).mono ?_; rw [HP.out]; rintro e w' ⟨rfl, hb'⟩)
        go_roundw
        case rel =>
          refine ⟨k + 1, by omega, by go_num, ?_, HBb.out.trans (hb'.mono HBb.out.size)⟩
          intro j hj
          by_cases e : j = k
          · subst e
            have := HX.out
            unfold rd_T33 at this
            rw [Int.toNat_natCast] at this
            rw [this]
            exact HP.out
          · exact HN.out j (by omega)
        case measure => simp [intOf]; omega
    · go_wp2
      go_ret
      exact ⟨-1, rfl, by rw [any_of_none (inSpan n) l0 (by have hkl : k = l0.length := (by omega); subst hkl; exact HN.out)]; simp, HBb.out⟩

theorem in_contains (n : Int) (B : Nat) (w : World) (hB : B < w.heap.size) (hcB : w.cell? ⟨B, 0, none⟩ = some (.int .u32 n)) (A0 : Option Addr) (c0 : Nat) (l0 : List (S33)) (hr0 : Kd.C k33 w A0 l0.length l0) (hl : l0.length ≤ 9223372036854775807) (r : Bool) (hr : l0.any (inSpan n) = r) :
    Calls Try.prog 29 #[.slice A0 l0.length c0, .func (.func 30) #[] #[.pointer (some ⟨B, 0, none⟩)]] w fun e w' => e = .returned (.bool r) ∧ Below w.heap.size w w' := by
  have HCON := Go.Lib.hid (in_index n B w hB hcB A0 c0 l0 hr0 hl)
  have HRr := Go.Lib.hid hr
  clear hr hr0 hcB
  go_enter Try.func29, Try.ntmps29
  go_wp2_with (first | (go_at_call 38; refine HCON.out.mono ?_; rintro e w' ⟨i, rfl, hi, hb⟩; have HI := Go.Lib.hid (hi.trans HRr.out); clear hi))
  go_ret
  exact ⟨by rw [← HI.out]; rfl, hb⟩

theorem span_In.calls (A0 : Option Addr) (c0 : Nat) (l0 : List (S33)) (a1 : Int) (r : Bool) (w : World) (hr0 : Kd.C k33 w A0 l0.length l0) (hc0 : l0.length ≤ c0) (h : span_In.f l0 a1 = some r) :
    Calls Try.prog 16 #[.slice A0 l0.length c0, .int .u32 a1] w fun e w' => e = .returned (.bool r) ∧ Below w.heap.size w w' := by
  unfold span_In.f at h
  by_cases hl : l0.length ≤ 9223372036854775807
  · rw [if_pos hl] at h
    have hr := Option.some.inj h
    clear h
    have HCON := Go.Lib.hid (in_contains a1 w.heap.size (w.alloc (.cells #[.int .u32 a1] 29)) (by simp) (by simp) A0 c0 l0 (Kd.C_below hr0 (below_alloc (Below.refl _ _) _)) hl r hr)
    clear hr hr0
    go_enter Try.func16, Try.ntmps16
    go_wp2_with (first | (go_at_call 29; refine HCON.out.mono ?_; rintro e w' ⟨rfl, hb⟩))
    go_ret
    exact ⟨rfl, (below_alloc (Below.refl _ _) _).trans (hb.mono (by simp))⟩
  · rw [if_neg hl] at h
    exact absurd h (by simp)
end Go.Proofs.Ytconaifcjnpabaa.P

namespace Go.Proofs.Ytconaifcjnpabaa.P
open Go.RowKit Go.Proofs.YtconaifcjnpabaaW.PrintWords Go.Proofs.YtconaifcjnpabaaW.PrintLast Go.Proofs.YtconaifcjnpabaaW.PrintMore
attribute [local go_sem] max2_int min2_int max_two min_two max_three min_three max_four min_four
set_option linter.unusedVariables false
set_option linter.unusedSimpArgs false

theorem eqA33 (d : Nat) (w : World) (x0 y0 : Int) (x1 y1 : Int) :
    (Op.equalIn (d + 2) 33 (.agg #[.int .u32 x0, .int .u32 x1]) (.agg #[.int .u32 y0, .int .u32 y1])).run Try.prog w = .ok (x0 == y0 && (x1 == y1)) w := by
  refine eqA_of Try.underlying33 (by kernel_rfl) ?_
  refine eqf_cons (by rfl) (by go_simp; rfl) (by go_simp; rfl) (by go_simp) ?_
  exact eqf_last (by rfl) (by go_simp; rfl) (by go_simp; rfl) (by go_simp)
end Go.Proofs.Ytconaifcjnpabaa.P

namespace Go.Proofs.Ytconaifcjnpabaa.P
open Go.RowKit Go.Proofs.YtconaifcjnpabaaW.PrintWords Go.Proofs.YtconaifcjnpabaaW.PrintLast Go.Proofs.YtconaifcjnpabaaW.PrintMore
attribute [local go_sem] max2_int min2_int max_two min_two max_three min_three max_four min_four
set_option linter.unusedVariables false
set_option linter.unusedSimpArgs false

attribute [local go_sem high] eqA33
/-! ### dragomanref01_Same: function 10 -/
def q1z.l0 : Nat → List (S33) → List (S33) → Int → Int → Option (Bool)
 | 0, _, _, _, _ => none
 | k + 1, x0, x1, x12, x13 => if x13 < x12 then (if 0 ≤ x13 then (if x13 < (x0.length : Int) then (if x13 < (x1.length : Int) then (if (!(((rd_T33 x0 x13).f0) == ((rd_T33 x1 x13).f0)) || (!(((rd_T33 x0 x13).f1) == ((rd_T33 x1 x13).f1)))) = true then (some false) else (q1z.l0 k x0 x1 x12 (wrap64 (x13 + 1)))) else (none)) else (none)) else (none)) else (some true)
def q1z.f (k : Nat) (l0 : List (S33)) (l1 : List (S33)) : Option (Bool) := if (l0.length : Int) = (l1.length : Int) then (q1z.l0 k l0 l1 (l0.length : Int) 0) else (some false)
theorem q1z.mono_l : ∀ k, (∀ y0 y1 y2 y3, LeO (q1z.l0 k y0 y1 y2 y3) (q1z.l0 (k + 1) y0 y1 y2 y3))
 | 0 => fun _ _ _ _ r h => by simp [q1z.l0] at h
 | k + 1 => by
  have ih0 := q1z.mono_l k
  ·
   intro y0 y1 y2 y3
   unfold q1z.l0
   repeat' first
   | (with_reducible exact ih0 _ _ _ _)
   | (with_reducible exact LeO.refl _)
   | (with_reducible exact LeO.none _)
   | (with_reducible refine LeO.ite ?_ ?_)
   | (with_reducible refine LeO.bind ?_ (fun _ => ?_))
   | exact ih0 _ _ _ _
   | exact LeO.none _
   | refine LeO.ite ?_ ?_
   | refine LeO.bind ?_ (fun _ => ?_)
theorem q1z.mono : ∀ a0 a1 k, LeO (q1z.f k a0 a1) (q1z.f (k + 1) a0 a1) := by
 intro a0 a1 k
 have ih0 := q1z.mono_l k
 unfold q1z.f
 repeat' first
   | (with_reducible exact ih0 _ _ _ _)
   | (with_reducible exact LeO.refl _)
   | (with_reducible exact LeO.none _)
   | (with_reducible refine LeO.ite ?_ ?_)
   | (with_reducible refine LeO.bind ?_ (fun _ => ?_))
   | exact ih0 _ _ _ _
   | exact LeO.none _
   | refine LeO.ite ?_ ?_
   | refine LeO.bind ?_ (fun _ => ?_)
set_option maxHeartbeats 8000000 in
set_option maxRecDepth 100000 in
theorem q1z.calls (k : Nat) (A0 : Option Addr) (c0 : Nat) (l0 : List (S33)) (A1 : Option Addr) (c1 : Nat) (l1 : List (S33)) (r : Bool) (w : World) (hr0 : Kd.C k33 w A0 l0.length l0) (hc0 : l0.length ≤ c0) (hr1 : Kd.C k33 w A1 l1.length l1) (hc1 : l1.length ≤ c1) (h : q1z.f k l0 l1 = some r) :
  Calls Try.prog 10 #[.slice A0 l0.length c0, .slice A1 l1.length c1] w fun e w' => e = .returned (.bool r) ∧ Drawn0 w w' := by
 have hu33 := Try.underlying33
 have HR0 := Aside0.mk hr0
 have HC0 := Aside0.mk hc0
 clear hr0 hc0
 have HR1 := Aside0.mk hr1
 have HC1 := Aside0.mk hc1
 clear hr1 hc1
 have H : (if (l0.length : Int) = (l1.length : Int) then (q1z.l0 k l0 l1 (l0.length : Int) 0) else (some false)) = some r := h
 clear h
 by_cases c3 : (l0.length : Int) = (l1.length : Int)
 ·
  rw [if_pos c3] at H
  have c3b0 : ((l0.length : Int) == (l1.length : Int)) = true := beq_iff_eq.mpr c3
  have c3b1 : ((l0.length : Int) != (l1.length : Int)) = false := bne_eq_false_iff_eq.mpr c3
  have c3b2 : (l0.length == l1.length) = true := by first | simpa using c3 | (simp at c3 ⊢; omega)
  clear c3
  have H' := Aside0.mk H
  clear H
  go_enter Try.func10, Try.ntmps10
  go_wp2
  repeat (go_quiet (fail); try go_wp2)
  go_loopg [13] k (fun kq v13 w' => ∃ (x13_1 : Int), v13 = .int .i64 x13_1 ∧ Aside0 (q1z.l0 kq l0 l1 (l0.length : Int) x13_1 = some r) ∧ Aside0 (kq ≤ k) ∧ Drawn0 w w')
  case atStart => exact ⟨(0), (by first | rfl | (simp; done) | (simp [*]; done)), H', ⟨Nat.le_refl _⟩, by repeat (first | exact Drawn0.refl _ | apply Drawn0.step)⟩
  case round =>
   clear H'
   try clear c1
   try clear p2
   try clear c3
   try clear c3b0
   try clear c3b1
   try clear c3b2
   obtain ⟨x13_1, rfl, HA, HK1, ⟨m1, rfl⟩⟩ := hrel
   cases gk with
   | zero => exact absurd HA.out (by simp [q1z.l0])
   | succ k1 =>
    have H := HA.out
    clear HA
    simp only [q1z.l0] at H
    by_cases c4 : x13_1 < (l0.length : Int)
    ·
     rw [if_pos c4] at H
     have c4b0 : decide (x13_1 < (l0.length : Int)) = true := decide_eq_true c4
     clear c4
     by_cases c5 : 0 ≤ x13_1
     ·
      rw [if_pos c5] at H
      have c5b0 : decide (0 ≤ x13_1) = true := decide_eq_true c5
      clear c5
      by_cases c6 : x13_1 < (l0.length : Int)
      ·
       rw [if_pos c6] at H
       have c6b0 : decide (x13_1 < (l0.length : Int)) = true := decide_eq_true c6
       clear c6
       by_cases c7 : x13_1 < (l1.length : Int)
       ·
        rw [if_pos c7] at H
        have c7b0 : decide (x13_1 < (l1.length : Int)) = true := decide_eq_true c7
        clear c7
        by_cases c8 : (!(((rd_T33 l0 x13_1).f0) == ((rd_T33 l1 x13_1).f0)) || (!(((rd_T33 l0 x13_1).f1) == ((rd_T33 l1 x13_1).f1)))) = true
        ·
         rw [if_pos c8] at H
         have c8b0 : (!(((rd_T33 l0 x13_1).f0) == ((rd_T33 l1 x13_1).f0)) || (!(((rd_T33 l0 x13_1).f1) == ((rd_T33 l1 x13_1).f1)))) = true := c8
         clear c8
         obtain rfl := Option.some.inj H
         have p1 : 0 ≤ (x13_1 : Int) := of_decide_eq_true (by first | (with_reducible assumption) | assumption)
         have q1 : x13_1 < (l0.length : Int) := of_decide_eq_true (by first | (with_reducible assumption) | assumption)
         obtain ⟨ad1, e1, hx1_0, hx1_1⟩ := at_T33 HR0.out x13_1 p1 q1
         cases e1
         replace p1 := eq_true p1
         replace q1 := eq_true q1
         have p2 : 0 ≤ (x13_1 : Int) := of_decide_eq_true (by first | (with_reducible assumption) | assumption)
         have q2 : x13_1 < (l1.length : Int) := of_decide_eq_true (by first | (with_reducible assumption) | assumption)
         obtain ⟨ad2, e2, hx2_0, hx2_1⟩ := at_T33 HR1.out x13_1 p2 q2
         cases e2
         replace p2 := eq_true p2
         replace q2 := eq_true q2
         go_wp2
         repeat (go_quiet (fail); try go_wp2)
         go_ret
         exact ⟨by first | rfl | (simp; done) | (simp [*]; done), by repeat (first | exact Drawn0.refl _ | apply Drawn0.step)⟩
        ·
         rw [if_neg c8] at H
         have c8b0 : (!(((rd_T33 l0 x13_1).f0) == ((rd_T33 l1 x13_1).f0)) || (!(((rd_T33 l0 x13_1).f1) == ((rd_T33 l1 x13_1).f1)))) = false := by simpa using c8
         clear c8
         have H' := Aside0.mk H
         clear H
         have p1 : 0 ≤ (x13_1 : Int) := of_decide_eq_true (by first | (with_reducible assumption) | assumption)
         have q1 : x13_1 < (l0.length : Int) := of_decide_eq_true (by first | (with_reducible assumption) | assumption)
         obtain ⟨ad1, e1, hx1_0, hx1_1⟩ := at_T33 HR0.out x13_1 p1 q1
         cases e1
         replace p1 := eq_true p1
         replace q1 := eq_true q1
         have p2 : 0 ≤ (x13_1 : Int) := of_decide_eq_true (by first | (with_reducible assumption) | assumption)
         have q2 : x13_1 < (l1.length : Int) := of_decide_eq_true (by first | (with_reducible assumption) | assumption)
         obtain ⟨ad2, e2, hx2_0, hx2_1⟩ := at_T33 HR1.out x13_1 p2 q2
         cases e2
         replace p2 := eq_true p2
         replace q2 := eq_true q2
         go_wp2
         repeat (go_quiet (fail); try go_wp2)
         go_roundg k1
         case measure => have := HK1.out; omega
         case rel => exact ⟨(wrap64 (x13_1 + 1)), (by first | rfl | (simp; done) | (simp [*]; done)), H', ⟨by have := HK1.out; omega⟩, by repeat (first | exact Drawn0.refl _ | apply Drawn0.step)⟩
       ·
        rw [if_neg c7] at H
        exact absurd H (by simp)
      ·
       rw [if_neg c6] at H
       exact absurd H (by simp)
     ·
      rw [if_neg c5] at H
      exact absurd H (by simp)
    ·
     rw [if_neg c4] at H
     have c4b0 : decide (x13_1 < (l0.length : Int)) = false := decide_eq_false c4
     clear c4
     obtain rfl := Option.some.inj H
     go_wp2
     repeat (go_quiet (fail); try go_wp2)
     go_ret
     exact ⟨by first | rfl | (simp; done) | (simp [*]; done), by repeat (first | exact Drawn0.refl _ | apply Drawn0.step)⟩
 ·
  rw [if_neg c3] at H
  have c3b0 : ((l0.length : Int) == (l1.length : Int)) = false := beq_eq_false_iff_ne.mpr c3
  have c3b1 : ((l0.length : Int) != (l1.length : Int)) = true := bne_iff_ne.mpr c3
  have c3b2 : (l0.length == l1.length) = false := by first | simpa using c3 | (simp at c3 ⊢; omega)
  obtain rfl := Option.some.inj H
  go_enter Try.func10, Try.ntmps10
  go_wp2
  repeat (go_quiet (fail); try go_wp2)
  go_ret
  exact ⟨by first | rfl | (simp; done) | (simp [*]; done), by repeat (first | exact Drawn0.refl _ | apply Drawn0.step)⟩

end Go.Proofs.Ytconaifcjnpabaa.P

namespace Go.Proofs.Ytconaifcjnpabaa.P
open Go.RowKit Go.Proofs.YtconaifcjnpabaaW.PrintWords Go.Proofs.YtconaifcjnpabaaW.PrintLast Go.Proofs.YtconaifcjnpabaaW.PrintMore Go.Sort
set_option linter.unusedVariables false
variable {α : Type} [Inhabited α] {d : Kd α} {enc : α → List Value} {e base g cap n : Nat} {ok ok' : Nat → Prop} {w w' : World} {v : Value} {xs ys : List α} {cur : Array Value}

theorem getElem!_toArray_of (xs : List α) (i : Nat) (h : i < xs.length) : xs.toArray[i]! = xs[i] := by
  rw [getElem!_pos xs.toArray i (by simpa using h)]
  simp
theorem getElem!_list (l : List Value) (i : Nat) (h : i < l.length) : l[i]! = l[i] := getElem!_pos l i h

/-- A row of the call's own whose elements lead to nothing: as the sort's contracts want it. -/
theorem bridge_down (hflat : ∀ {w : World} {base : Nat} {ok : Nat → Prop} {x : α} {cs : List Value}, d.M w base ok x cs → cs = enc x) (hk : ∀ x, (enc x).length = d.sz) (hpos : 0 < d.sz) (h : d.R e w base ok v xs) :
    (v = .slice none 0 0 ∧ xs = []) ∨ ∃ g cap cur, v = .slice (some ⟨g, 0, none⟩) xs.length cap ∧ base ≤ g ∧ w.heap[g]? = some (.cells cur e (0, 0)) ∧ xs.length ≤ cap ∧ cap ≤ maxLen ∧ cur.size = cap * d.sz ∧ ok g ∧ HoldsK enc d.sz w g 0 xs.toArray := by
  obtain ⟨h0, inner, ⟨hlen, hv⟩, hreps⟩ := h
  rcases hv with ⟨hv, hn⟩ | ⟨g, cap, cur, rfl, hg, hb, hnc, hcm, hcs, htake⟩
  · exact .inl ⟨hv, List.length_eq_zero_iff.1 hn⟩
  · refine .inr ⟨g, cap, cur, rfl, hg, hb, hnc, hcm, hcs, h0 g rfl, ?_⟩
    intro j hj
    rw [size_flatK, List.size_toArray] at hj
    rw [Nat.zero_add]
    refine ⟨?_, blk_frozen hb j⟩
    rw [blk_cell hb j, id, get_flatK enc d.sz xs.toArray j (by simpa using hj)]
    have hq : j / d.sz < xs.length := Nat.div_lt_of_lt_mul (by rw [Nat.mul_comm]; exact hj)
    rw [getElem!_toArray_of xs _ hq]
    have hr := hflat (hreps.2 (j / d.sz) xs[j / d.sz] (List.getElem?_eq_getElem hq))
    have hm : j % d.sz < d.sz := Nat.mod_lt _ hpos
    rw [getElem!_list _ _ (by rw [hk]; exact hm)]
    have e1 : (enc xs[j / d.sz])[j % d.sz]? = cur[j]? := by
      rw [← hr, List.getElem?_take_of_lt hm, List.getElem?_drop]
      have hjj : j / d.sz * d.sz + j % d.sz = j := Nat.div_add_mod' j d.sz
      rw [hjj, ← htake, List.getElem?_take_of_lt hj]
      simp
    rw [← e1]
    exact List.getElem?_eq_getElem (by rw [hk]; exact hm)

/-- What stands in a world of the sort's. -/
theorem sortWorld_heap (w : World) (g m : Nat) (D : Array α) (os : Array Obj) (hb : w.heap[g]? = some (.cells cur e (0, 0))) :
    (grow (putRowK enc d.sz (Sort.ahead w m) g 0 D) os).heap[g]? = some (.cells (putCells id 0 (flatK enc d.sz D) cur) e (0, 0)) ∧
    (∀ k, k < w.heap.size → k ≠ g → (grow (putRowK enc d.sz (Sort.ahead w m) g 0 D) os).heap[k]? = w.heap[k]?) ∧ w.heap.size ≤ (grow (putRowK enc d.sz (Sort.ahead w m) g 0 D) os).heap.size := by
  have hg := blk_lt hb
  have hsz : (putRowK enc d.sz (Sort.ahead w m) g 0 D).heap.size = w.heap.size := by
    unfold putRowK
    rw [size_putRow]
    rfl
  have hlt : ∀ k : Nat, k < w.heap.size → (grow (putRowK enc d.sz (Sort.ahead w m) g 0 D) os).heap[k]? = (putRowK enc d.sz (Sort.ahead w m) g 0 D).heap[k]? := fun k hk => by
    unfold grow
    exact Array.getElem?_append_left (by rw [hsz]; exact hk)
  have hmod : ∀ k : Nat, (putRowK enc d.sz (Sort.ahead w m) g 0 D).heap[k]? = (w.heap.modify g (onCells (putCells id 0 (flatK enc d.sz D))))[k]? := fun k => rfl
  refine ⟨?_, ?_, ?_⟩
  · rw [hlt g hg, hmod, Array.getElem?_modify, if_pos rfl, hb]
    rfl
  · intro k hk hne
    rw [hlt k hk, hmod, Array.getElem?_modify, if_neg (fun h => hne h.symm)]
  · unfold grow
    rw [Array.size_append, hsz]
    omega

theorem take_putCellsK (hk : ∀ x, (enc x).length = d.sz) (hpos : 0 < d.sz) (hc : ys.length * d.sz ≤ cur.size) :
    ((putCells id 0 (flatK enc d.sz ys.toArray) cur).toList.take (ys.length * d.sz)).length = ys.length * d.sz ∧
    ∀ j p, ys[j]? = some p → ((((putCells id 0 (flatK enc d.sz ys.toArray) cur).toList.take (ys.length * d.sz)).drop (j * d.sz)).take d.sz) = enc p := by
  have hs : (putCells id 0 (flatK enc d.sz ys.toArray) cur).size = cur.size := by simp [putCells]
  have hs2 : (putCells id 0 (flatK enc d.sz ys.toArray) cur).toList.length = cur.size := by rw [Array.length_toList]; exact hs
  refine ⟨by rw [List.length_take, hs2]; omega, ?_⟩
  intro j p hp
  obtain ⟨hj, rfl⟩ := List.getElem?_eq_some_iff.1 hp
  have hjk : j * d.sz + d.sz ≤ ys.length * d.sz := by rw [← Nat.succ_mul]; exact Nat.mul_le_mul_right _ hj
  apply List.ext_getElem?
  intro i
  by_cases hi : i < d.sz
  · rw [List.getElem?_take_of_lt hi, List.getElem?_drop, List.getElem?_take_of_lt (by omega)]
    have ht : j * d.sz + i < ys.length * d.sz := by omega
    rw [Array.getElem?_toList]
    unfold putCells
    rw [Array.getElem?_mapIdx, Array.getElem?_eq_getElem (show j * d.sz + i < cur.size by omega), Option.map_some, if_pos ⟨Nat.zero_le _, by rw [size_flatK]; simpa using ht⟩, Nat.sub_zero, id,
      get_flatK enc d.sz ys.toArray _ (by simpa using ht)]
    have e1 : (j * d.sz + i) / d.sz = j := by rw [Nat.mul_comm, Nat.mul_add_div hpos, Nat.div_eq_of_lt hi, Nat.add_zero]
    have e2 : (j * d.sz + i) % d.sz = i := by rw [Nat.mul_comm, Nat.mul_add_mod, Nat.mod_eq_of_lt hi]
    rw [e1, e2, getElem!_toArray_of ys j hj, getElem!_list _ _ (by rw [hk]; exact hi), List.getElem?_eq_getElem (by rw [hk]; exact hi)]
  · rw [List.getElem?_eq_none (by rw [List.length_take]; omega), List.getElem?_eq_none (by rw [hk]; omega)]

/-- .. and back: what a call says that wrote the row alone, and laid blocks. -/
theorem bridge_up (hmk : ∀ (w : World) (base : Nat) (ok : Nat → Prop) (x : α), d.M w base ok x (enc x)) (hk : ∀ x, (enc x).length = d.sz) (hpos : 0 < d.sz) {W0 : World} (hB : Below W0.heap.size W0 w) (hbase : W0.heap.size ≤ g)
    (hb : w.heap[g]? = some (.cells cur e (0, 0))) (hlen : ys.length = n) (hnc : n ≤ cap) (hcm : cap ≤ maxLen) (hcs : cur.size = cap * d.sz) (hok : ok g) (m : Nat) (os : Array Obj) :
    d.R e (grow (putRowK enc d.sz (Sort.ahead w m) g 0 ys.toArray) os) W0.heap.size (fun k_ => ok k_ ∨ w.heap.size ≤ k_) (.slice (some ⟨g, 0, none⟩) n cap) ys ∧
    Below W0.heap.size W0 (grow (putRowK enc d.sz (Sort.ahead w m) g 0 ys.toArray) os) ∧ Kept w (grow (putRowK enc d.sz (Sort.ahead w m) g 0 ys.toArray) os) ok := by
  obtain ⟨h1, h2, h3⟩ := sortWorld_heap (d := d) (enc := enc) w g m ys.toArray os hb
  subst hlen
  have hmul : ys.length * d.sz ≤ cap * d.sz := Nat.mul_le_mul_right _ hnc
  obtain ⟨t1, t2⟩ := take_putCellsK (d := d) (enc := enc) (ys := ys) (cur := cur) hk hpos (by omega)
  refine ⟨⟨?_, _, ⟨t1, .inr ⟨g, cap, _, rfl, hbase, h1, hnc, hcm, by simp [putCells, hcs], rfl⟩⟩, t1, ?_⟩, ⟨hB.os, hB.tape, hB.output, Nat.le_trans hB.size h3, ?_⟩, h3, ?_⟩
  · intro k hk'
    have : g = k := by simpa [Value.ownBlock] using hk'
    exact .inl (this ▸ hok)
  · intro j p hp
    rw [t2 j p hp]
    exact hmk _ _ _ _
  · intro k hk'
    rw [h2 k (Nat.lt_of_lt_of_le hk' hB.size) (by omega)]
    exact hB.block k hk'
  · intro k hk' hn
    exact h2 k hk' (fun he => hn (he ▸ hok))
end Go.Proofs.Ytconaifcjnpabaa.P

namespace Go.Proofs.Ytconaifcjnpabaa.P
open Go.RowKit Go.Proofs.YtconaifcjnpabaaW.PrintWords Go.Proofs.YtconaifcjnpabaaW.PrintLast Go.Proofs.YtconaifcjnpabaaW.PrintMore Go.Sort Go.Shelf Go.Lib
set_option linter.unusedVariables false
def lay_Compact_ren : Go.Shelf.Ren := ⟨fun | 43 => 23 | n => n, fun | 22 => 37 | 23 => 29 | 3 => 3 | 4 => 4 | 0 => 0 | n => n, fun n => n⟩
theorem lay_Compact : SlLaysE.n43 Try.prog lay_Compact_ren := {
  mixed := by kernel_rfl,
  f43 := ⟨Try.f23.name, by decide, Try.func23.trans (congrArg some (by kernel_rfl))⟩,
  t0 := Try.underlying0,
  a0 := Try.isAgg0,
  z0 := Try.sizeOf0,
  v0 := Try.zeroValue0,
  t3 := Try.underlying3,
  a3 := Try.isAgg3,
  z3 := Try.sizeOf3,
  v3 := Try.zeroValue3,
  t4 := Try.underlying4,
  a4 := Try.isAgg4,
  z4 := Try.sizeOf4,
  v4 := Try.zeroValue4,
  t22 := Try.underlying37,
  a22 := Try.isAgg37,
  z22 := Try.sizeOf37,
  v22 := Try.zeroValue37,
  a23 := Try.isAgg29,
  z23 := Try.sizeOf29 }
section
variable {α : Type} [Inhabited α]
theorem flat_one (enc : α → Value) (d : Array α) (i : Nat) (h : i < d.size) : (flatK (fun x => [enc x]) 1 d)[i]! = enc d[i]! := by
  rw [get_flatK _ _ _ _ (by omega), Nat.div_one, Nat.mod_one]
  rfl
theorem holds_one (enc : α → Value) (w : World) (blk off : Nat) (d : Array α) (h : HoldsK (fun x => [enc x]) 1 w blk off d) : Holds enc w blk off d := fun j hj => by
  have := h j (by rw [size_flatK]; omega)
  rw [flat_one enc d j hj] at this
  exact this
theorem putRow_one (enc : α → Value) (w : World) (blk off : Nat) (d : Array α) : putRow enc w blk off d = putRowK (fun x => [enc x]) 1 w blk off d := by
  unfold putRowK putRow
  refine mapBlock_congr w blk _ _ (fun c e fr _ => ?_)
  unfold putCells
  apply Array.ext_getElem?
  intro i
  rw [Array.getElem?_mapIdx, Array.getElem?_mapIdx, size_flatK, Nat.mul_one]
  cases c[i]? with
  | none => rfl
  | some x =>
    simp only [Option.map_some]
    by_cases hi : off ≤ i ∧ i < off + d.size
    · rw [if_pos hi, if_pos hi, flat_one enc d (i - off) (by omega)]
      rfl
    · rw [if_neg hi, if_neg hi]
end
def Compact_u32.f (l0 : List Int) : Option (List Int) := if l0.length ≤ 9223372036854775807 then some (Go.Lib.compactUpTo l0.toArray l0.length) else none
theorem compact_le (l : List Int) : (Go.Lib.compactUpTo l.toArray l.length).length ≤ l.length := by
  unfold Go.Lib.compactUpTo
  rw [List.length_map]
  exact Nat.le_trans (List.length_filter_le _ _) (by simp)
theorem Compact_u32.calls (P0_ : Nat → Prop) (u9000_ : Value) (l0 : List Int) (r : List Int) (w0 w : World) (hB : Below w0.heap.size w0 w) (ho0 : Kd.R (Kd.int .u32) 29 w w0.heap.size P0_ u9000_ l0) (h : Compact_u32.f l0 = some r) :
    Calls Try.prog 23 #[u9000_] w fun e w' => ∃ v0_ : Value, e = .returned (v0_) ∧ Kd.R (Kd.int .u32) 29 w' w0.heap.size (fun k_ => (P0_ k_ ∨ w.heap.size ≤ k_)) v0_ r ∧ Below w0.heap.size w0 w' ∧ Kept w w' (fun k_ => P0_ k_) := by
  unfold Compact_u32.f at h
  by_cases hsz : l0.length ≤ 9223372036854775807
  · rw [if_pos hsz] at h
    have hr := Option.some.inj h
    clear h
    rcases bridge_down (d := Kd.int .u32) (enc := fun x : Int => [.int .u32 x]) (fun h => h) (fun _ => rfl) (by decide) ho0 with ⟨rfl, rfl⟩ | ⟨g, cap, cur, rfl, hbase, hb, hnc, hcm, hcs, hok, hH⟩
    · have hrn : r = [] := by
        have := compact_le []
        rw [hr] at this
        exact List.length_eq_zero_iff.1 (by simpa using this)
      subst hrn
      clear hr hsz
      have HO := Go.Lib.hid ho0
      clear ho0
      go_enter Try.func23, Try.ntmps23
      go_wp2
      go_ret
      exact ⟨_, rfl, Kd.R_nil _ _ _ _ _, hB, Kept.refl _ _⟩
    · have hcon := AnyE.slices_Compact lay_Compact (Value.int .u32) (fun _ => rfl) (EqlAt.intD _ _ .u32) (NeqAt.intD _ _ .u32) 0 Try.zeroValue29 g 0 cap l0.toArray w (holds_one _ _ _ _ _ hH) (by simpa using hsz) (by simpa using hnc)
      refine (show Calls Try.prog 23 _ _ _ from hcon).mono ?_
      rintro e w' ⟨rfl, q, rfl⟩
      have hcl := compact_le l0
      have hcu : Go.Lib.compactUpTo l0.toArray l0.toArray.size = r := by rw [← hr]; simp
      rw [hcu]
      rw [hr] at hcl
      have hyl : (r ++ List.replicate (l0.toArray.size - r.length) (0 : Int)).length = l0.length := by simp; omega
      have hup := bridge_up (d := Kd.int .u32) (enc := fun x : Int => [.int .u32 x]) (ys := r ++ List.replicate (l0.toArray.size - r.length) (0 : Int)) (fun _ _ _ _ => rfl) (fun _ => rfl) (by decide) hB hbase hb hyl hnc hcm hcs hok q #[]
      rw [grow_empty, show (Kd.int .u32).sz = 1 from rfl, ← putRow_one] at hup
      refine ⟨_, rfl, ?_, hup.2⟩
      have := Kd.R_take (m := r.length) hup.1 (by simp)
      rw [List.take_left] at this
      exact this
  · rw [if_neg hsz] at h
    exact absurd h (by simp)
end Go.Proofs.Ytconaifcjnpabaa.P

namespace Go.Proofs.Ytconaifcjnpabaa.P
open Go.RowKit Go.Sort Go.Shelf Go.Lib
set_option linter.unusedVariables false
set_option linter.unusedSimpArgs false
/-! Go's own sort at uint32: words of every walk. -/
theorem nan_u32 (x : Int) (w : World) : Calls Try.prog 37 #[.int .u32 x] w fun e w' => e = .returned (.bool false) ∧ w' = w := by
  go_enter Try.func37, Try.ntmps37
  go_wp2
  go_ret
  exact ⟨by simp, rfl⟩
theorem less_u32 (x y : Int) (w : World) : Calls Try.prog 46 #[.int .u32 x, .int .u32 y] w fun e w' => e = .returned (.bool (ltInt x y)) ∧ w' = w := by
  go_enter Try.func46, Try.ntmps46
  go_wp2_with (go_at_call 37; refine (nan_u32 _ _).mono ?_; rintro e w' ⟨rfl, rfl⟩)
  go_ret
  exact ⟨rfl, rfl⟩
/-- A row of a world of the sort's, its places under one name. -/
theorem row_facts {w0 W : World} {blk off : Nat} {d0 dk : Array Int} (S : SW (.int .u32) w0 blk off dk W) (R : Row1 (.int .u32) w0 blk off d0) (hs : dk.size = d0.size) :
    ∃ G : Nat → Int, Hid (∀ t, G t = dk[t]!) ∧ (∀ t, t < d0.size → W.cell? ⟨blk, off + t, none⟩ = some (.int .u32 (G t))) ∧ ∀ t, t < d0.size → W.frozen? ⟨blk, off + t, none⟩ = false :=
  ⟨fun t => dk[t]!, fun _ => rfl, fun t ht => S.c1 R hs t (by omega), fun t ht => S.f1 R hs t (by omega)⟩
theorem row_u32 {w : World} {blk off : Nat} {d : Array Int} (h : Holds (.int .u32) w blk off d) (hb : blk < w.heap.size) : Row1 (.int .u32) w blk off d := ⟨fun _ => rfl, h, hb⟩
end Go.Proofs.Ytconaifcjnpabaa.P

namespace Go.Proofs.Ytconaifcjnpabaa.P
open Go.RowKit Go.Sort Go.Shelf Go.Lib
set_option linter.unusedVariables false
set_option linter.unusedSimpArgs false
set_option maxHeartbeats 4000000 in
set_option maxRecDepth 100000 in
theorem reverse_u32 (blk off cap a b : Nat) (d0 d : Array Int) (w0 w : World) (R : Row1 (.int .u32) w0 blk off d0) (hs : d.size = d0.size) (S : SW (.int .u32) w0 blk off d w) (hab : a < b) (hb : b ≤ d0.size) (hsz : d0.size < 4611686018427387904) :
    Calls Try.prog 44 #[.slice (some ⟨blk, off, none⟩) d0.size cap, .int .i64 a, .int .i64 b] w fun e w' => e = .returned (.tuple #[]) ∧ SW (.int .u32) w0 blk off (reverseRange d a b) w' := by
  have S0 : Hid (SW (.int .u32) w0 blk off d w) := S
  clear S
  go_enter Try.func44, Try.ntmps44
  go_wp2
  go_loopw [6, 7] (fun vi vj wr => ∃ (i j : Nat) (dk : Array Int), vi = .int .i64 i ∧ vj = .int .i64 j ∧ i ≤ j + 1 ∧ j < b ∧ dk.size = d0.size ∧ Hid (SW (.int .u32) w0 blk off dk wr) ∧ Hid (reverseLoop i j dk = reverseLoop a (b - 1) d))
    (fun vi vj _ => (intOf vj).toNat + 1 - (intOf vi).toNat)
  case atStart => exact ⟨a, b - 1, d, rfl, by congr 1; omega, by omega, by omega, hs, S0, rfl⟩
  case round =>
    clear S0 hs
    obtain ⟨i, j, dk, rfl, rfl, hij, hjb, hds, S1, H⟩ := hrel
    by_cases hlt : i < j
    · obtain ⟨G, hG, hc, hf⟩ := row_facts S1.out R hds
      obtain ⟨u, hu⟩ := S1.out.c2 R hds i j (by omega) (by omega) (.int .u32 (G j))
      go_wp2_with fail
      go_region
      all_goals go_wp2
      go_roundw
      case rel =>
        refine ⟨i + 1, j - 1, swp dk i j, by go_num, by go_num, by omega, by omega, by rw [size_swp]; exact hds, ?_, ?_⟩
        · have := S1.out.swapped R i j (by omega) (by omega)
          rw [← hG.out i, ← hG.out j] at this
          exact this
        · have := H.out
          rw [reverseLoop, if_pos hlt] at this
          exact this
      case measure => simp [intOf]; omega
    · go_wp2
      go_end0
      refine ⟨rfl, ?_⟩
      have := H.out
      rw [reverseLoop, if_neg hlt] at this
      rw [reverseRange, ← this]
      exact S1.out
end Go.Proofs.Ytconaifcjnpabaa.P

namespace Go.Proofs.Ytconaifcjnpabaa.P
open Go.RowKit Go.Sort Go.Shelf Go.Lib
set_option linter.unusedVariables false
set_option linter.unusedSimpArgs false
theorem insInner_end (a j : Nat) (d : Array Int) (h : ¬ a < j ∨ ltInt d[j]! d[j - 1]! = false) : insInner ltInt a j d = d := by
  cases j with
  | zero => rfl
  | succ k =>
    rw [insInner, if_neg]
    rcases h with h | h
    · simp; omega
    · simp only [Nat.add_sub_cancel] at h; simp [h]
set_option maxHeartbeats 4000000 in
set_option maxRecDepth 100000 in
theorem insertion_u32 (blk off cap a b : Nat) (d0 d : Array Int) (w0 w : World) (R : Row1 (.int .u32) w0 blk off d0) (hs : d.size = d0.size) (S : SW (.int .u32) w0 blk off d w) (hb : b ≤ d0.size) (hsz : d0.size < 4611686018427387904) (ha : a < 4611686018427387904) :
    Calls Try.prog 40 #[.slice (some ⟨blk, off, none⟩) d0.size cap, .int .i64 a, .int .i64 b] w fun e w' => e = .returned (.tuple #[]) ∧ SW (.int .u32) w0 blk off (insertionSort ltInt d a b) w' := by
  have S0 : Hid (SW (.int .u32) w0 blk off d w) := S
  clear S
  go_enter Try.func40, Try.ntmps40
  go_wp2
  go_loopw [6, 7] (fun vi v7 wr => ∃ (i : Nat) (dk : Array Int), vi = .int .i64 i ∧ a + 1 ≤ i ∧ (i ≤ a + 1 ∨ i ≤ b) ∧ dk.size = d0.size ∧ Hid (SW (.int .u32) w0 blk off dk wr) ∧ Hid (insOuter ltInt a b i dk = insOuter ltInt a b (a + 1) d))
    (fun vi v7 _ => b - (intOf vi).toNat)
  case atStart => exact ⟨a + 1, d, by go_num, Nat.le_refl _, .inl (Nat.le_refl _), hs, S0, rfl⟩
  case round =>
    clear S0 hs
    obtain ⟨i, dk, rfl, hai, hia, hds, S1, H⟩ := hrel
    by_cases hib : i < b
    · go_wp2
      go_loopw [7] (fun vj wr => ∃ (j : Nat) (dj : Array Int), vj = .int .i64 j ∧ a ≤ j ∧ j ≤ i ∧ dj.size = d0.size ∧ Hid (SW (.int .u32) w0 blk off dj wr) ∧ Hid (insInner ltInt a j dj = insInner ltInt a i dk))
        (fun vj _ => (intOf vj).toNat)
      case atStart => exact ⟨i, dk, rfl, by omega, Nat.le_refl _, hds, S1, rfl⟩
      case round =>
        clear S1 hds
        obtain ⟨j, dj, rfl, haj, hji, hdj, S2, H2⟩ := hrel
        obtain ⟨G, hG, hc, hf⟩ := row_facts S2.out R hdj
        by_cases hja : a < j
        · obtain ⟨k, hk⟩ : ∃ k, j = k + 1 := ⟨j - 1, by omega⟩
          obtain ⟨u, hu⟩ := S2.out.c2 R hdj j k (by omega) (by omega) (.int .u32 (G k))
          have ez : (j : Int) - 1 = (k : Int) := by omega
          have hkl : k < d0.size := by omega
          have hjl : j < d0.size := by omega
          have HK : Hid (j = k + 1) := hk
          clear hk
          go_wp2_with fail
          go_big_quiet (first | (go_at_call 46; refine Calls.quiet_of_same (less_u32 _ _ _)))
          go_wp2
          · have ht : ltInt (G j) (G k) = true := by assumption
            go_region
            all_goals go_wp2
            go_roundw
            case rel =>
              have hk := HK.out
              refine ⟨k, swp dj j k, rfl, by omega, by omega, by rw [size_swp]; exact hdj, ?_, ?_⟩
              · have := (S2.out.drewN nq).swapped R j k (by omega) (by omega)
                rw [← hG.out j, ← hG.out k] at this
                exact this
              · rw [← H2.out]
                rw [hG.out j, hG.out k, hk] at ht
                rw [hk, insInner, if_pos (by rw [ht]; simp; omega)]
                exact rfl
            case measure => have hk := HK.out; simp [intOf]; omega
          · have ht : ltInt (G j) (G k) = false := by assumption
            have e := insInner_end a j dj (.inr (by rw [show j - 1 = k from by have := HK.out; omega, ← hG.out j, ← hG.out k]; exact ht))
            go_roundw
            case rel =>
              refine ⟨i + 1, dj, by go_num, by omega, .inr (by omega), hdj, S2.out.drewN nq, ?_⟩
              have h := H.out
              rw [insOuter, if_pos hib, ← H2.out, e] at h
              exact h
            case measure => simp [intOf]; omega
        · have e := insInner_end a j dj (.inl hja)
          go_wp2_with fail
          go_big_quiet (fail)
          go_wp2
          go_roundw
          case rel =>
            refine ⟨i + 1, dj, by go_num, by omega, .inr (by omega), hdj, S2.out.drewN nq, ?_⟩
            have h := H.out
            rw [insOuter, if_pos hib, ← H2.out, e] at h
            exact h
          case measure => simp [intOf]; omega
    · go_wp2
      go_end0
      refine ⟨rfl, ?_⟩
      have h := H.out
      rw [insOuter, if_neg hib] at h
      rw [insertionSort, ← h]
      exact S1.out
end Go.Proofs.Ytconaifcjnpabaa.P

namespace Go.Proofs.Ytconaifcjnpabaa.P
open Go.RowKit Go.Sort Go.Shelf Go.Lib
set_option linter.unusedVariables false
set_option linter.unusedSimpArgs false
theorem sift_stop (hi F root : Nat) (d : Array Int) (h : hi ≤ 2 * root + 1) : siftDown ltInt hi F root d = d := by rw [siftDown, dif_pos h]
theorem sift_left (hi F root : Nat) (d : Array Int) (h : 2 * root + 1 < hi) (hc : ¬ 2 * root + 1 + 1 < hi ∨ ltInt d[F + (2 * root + 1)]! d[F + (2 * root + 1) + 1]! = false) :
    siftDown ltInt hi F root d = if ltInt d[F + root]! d[F + (2 * root + 1)]! = false then d else siftDown ltInt hi F (2 * root + 1) (swp d (F + root) (F + (2 * root + 1))) := by
  rw [siftDown, dif_neg (by omega), if_neg (by rcases hc with hc | hc <;> simp [hc])]
  cases ltInt d[F + root]! d[F + (2 * root + 1)]! <;> rfl
theorem sift_right (hi F root : Nat) (d : Array Int) (h : 2 * root + 1 + 1 < hi) (hc : ltInt d[F + (2 * root + 1)]! d[F + (2 * root + 1) + 1]! = true) :
    siftDown ltInt hi F root d = if ltInt d[F + root]! d[F + (2 * root + 2)]! = false then d else siftDown ltInt hi F (2 * root + 2) (swp d (F + root) (F + (2 * root + 2))) := by
  rw [siftDown, dif_neg (by omega), if_pos (by simp [hc, h]), dif_pos (by omega)]
  cases ltInt d[F + root]! d[F + (2 * root + 2)]! <;> rfl
set_option maxHeartbeats 8000000 in
set_option maxRecDepth 100000 in
theorem sift_u32 (blk off cap lo hi F : Nat) (d0 d : Array Int) (w0 w : World) (R : Row1 (.int .u32) w0 blk off d0) (hs : d.size = d0.size) (S : SW (.int .u32) w0 blk off d w) (hF : F + hi ≤ d0.size) (hlo : lo ≤ d0.size) (hsz : d0.size < 4611686018427387904) :
    Calls Try.prog 59 #[.slice (some ⟨blk, off, none⟩) d0.size cap, .int .i64 lo, .int .i64 hi, .int .i64 F] w fun e w' => e = .returned (.tuple #[]) ∧ SW (.int .u32) w0 blk off (siftDown ltInt hi F lo d) w' := by
  have S0 : Hid (SW (.int .u32) w0 blk off d w) := S
  clear S
  go_enter Try.func59, Try.ntmps59
  go_wp2
  go_loopw [8, 9] (fun vi v9 wr => ∃ (root : Nat) (dk : Array Int), vi = .int .i64 root ∧ root ≤ d0.size ∧ dk.size = d0.size ∧ Hid (SW (.int .u32) w0 blk off dk wr) ∧ Hid (siftDown ltInt hi F root dk = siftDown ltInt hi F lo d))
    (fun vi v9 _ => hi - (intOf vi).toNat)
  case atStart => exact ⟨lo, d, rfl, hlo, hs, S0, rfl⟩
  case round =>
    clear S0 hs
    obtain ⟨root, dk, rfl, hrl0, hds, S1, H⟩ := hrel
    obtain ⟨c, hc0⟩ : ∃ c, c = 2 * root + 1 := ⟨_, rfl⟩
    have ez : 2 * (root : Int) + 1 = (c : Int) := by omega
    have HC : Hid (c = 2 * root + 1) := hc0
    by_cases h1 : c < hi
    · obtain ⟨G, hG, hc, hf⟩ := row_facts S1.out R hds
      obtain ⟨p, hp⟩ : ∃ p, p = F + c := ⟨_, rfl⟩
      obtain ⟨q, hq⟩ : ∃ q, q = p + 1 := ⟨_, rfl⟩
      have ep : (F : Int) + (c : Int) = (p : Int) := by omega
      have eq1 : (p : Int) + 1 = (q : Int) := by omega
      have hpl : p < d0.size := by omega
      obtain ⟨c2, hc2⟩ : ∃ c2, c2 = c + 1 := ⟨_, rfl⟩
      have ez2 : (c : Int) + 1 = (c2 : Int) := by omega
      have HP : Hid (p = F + c) := hp
      have HQ : Hid (q = p + 1) := hq
      have HC2 : Hid (c2 = c + 1) := hc2
      by_cases h2 : c2 < hi
      · have hql : q < d0.size := by omega
        clear hc0 hp hq hc2
        go_wp2_with fail
        go_big_quiet (first | (go_at_call 46; refine Calls.quiet_of_same (less_u32 _ _ _)))
        go_wp2
        · have ht : ltInt (G p) (G q) = true := by assumption
          have Hch : Hid (c2 = 2 * root + 2 ∧ F + c2 < d0.size + 0 ∧ root < c2 ∧ c2 < hi) := by have := HC.out; have := HC2.out; exact ⟨by omega, by omega, by omega, h2⟩
          have Hst : Hid (siftDown ltInt hi F root dk = if ltInt dk[F + root]! dk[F + c2]! = false then dk else siftDown ltInt hi F c2 (swp dk (F + root) (F + c2))) := by
            have a1 := HC.out; have a2 := HC2.out; have a3 := HP.out; have a4 := HQ.out
            rw [hG.out p, hG.out q, a4, a3, a1] at ht
            rw [a2, a1]
            exact sift_right hi F root dk (by omega) ht
          have hb1 : F + c2 < d0.size ∧ root < c2 := ⟨by have := Hch.out; omega, Hch.out.2.2.1⟩
          have hb2 := hb1.1
          have hb3 := hb1.2
          clear hb1 ht
          have S2 : Hid (SW (.int .u32) w0 blk off dk (wr.drewN nq)) := S1.out.drewN nq
          clear hc hf hG S1 ep eq1
          generalize wr.drewN nq = w2 at S2 ⊢
          obtain ⟨G2, hG2, hc2, hf2⟩ := row_facts S2.out R hds
          obtain ⟨rp, hrp⟩ : ∃ rp, rp = F + root := ⟨_, rfl⟩
          obtain ⟨cp, hcp⟩ : ∃ cp, cp = F + c2 := ⟨_, rfl⟩
          have er : (F : Int) + (root : Int) = (rp : Int) := by omega
          have ec : (F : Int) + (c2 : Int) = (cp : Int) := by omega
          have hrl : rp < d0.size := by omega
          have hcl : cp < d0.size := by omega
          have hrc : rp ≠ cp := by omega
          have HRP : Hid (rp = F + root) := hrp
          have HCP : Hid (cp = F + c2) := hcp
          clear hrp hcp
          obtain ⟨u, hu⟩ := S2.out.c2 R hds rp cp (by omega) (by omega) (.int .u32 (G2 cp))
          go_wp2_with fail
          go_big_quiet (first | (go_at_call 46; refine Calls.quiet_of_same (less_u32 _ _ _)))
          go_wp2
          · have ht : ltInt (G2 rp) (G2 cp) = false := by simp_all
            refine bodyPost_ret (results_none rfl _ _ _) rfl ?_
            refine ⟨rfl, ?_⟩
            have e := Hst.out
            rw [← HRP.out, ← HCP.out, ← hG2.out rp, ← hG2.out cp, ht, if_pos rfl] at e
            rw [← H.out, e]
            exact S2.out.drewN nq
          · have ht : ltInt (G2 rp) (G2 cp) = true := by simp_all
            go_region
            all_goals go_wp2
            go_roundw
            case rel =>
              have h3 := Hch.out
              refine ⟨c2, swp dk rp cp, rfl, by omega, by rw [size_swp]; exact hds, ?_, ?_⟩
              · have := (S2.out.drewN nq).swapped R rp cp (by omega) (by omega)
                rw [← hG2.out rp, ← hG2.out cp] at this
                exact this
              · have e := Hst.out
                rw [← HRP.out, ← HCP.out, ← hG2.out rp, ← hG2.out cp, ht, if_neg (by simp)] at e
                rw [← H.out, e]
                exact rfl
            case measure => have h3 := Hch.out; simp [intOf]; omega
        · have ht : ltInt (G p) (G q) = false := by assumption
          have Hch : Hid (c = 2 * root + 1 ∧ F + c < d0.size + 0 ∧ root < c ∧ c < hi) := by have := HC.out; exact ⟨by omega, by omega, by omega, h1⟩
          have Hst : Hid (siftDown ltInt hi F root dk = if ltInt dk[F + root]! dk[F + c]! = false then dk else siftDown ltInt hi F c (swp dk (F + root) (F + c))) := by
            have a1 := HC.out; have a2 := HC2.out; have a3 := HP.out; have a4 := HQ.out
            rw [hG.out p, hG.out q, a4, a3, a1] at ht
            rw [a1]
            exact sift_left hi F root dk (by omega) (.inr ht)
          have hb1 : F + c < d0.size ∧ root < c := ⟨by have := Hch.out; omega, Hch.out.2.2.1⟩
          have hb2 := hb1.1
          have hb3 := hb1.2
          clear hb1 ht
          have S2 : Hid (SW (.int .u32) w0 blk off dk (wr.drewN nq)) := S1.out.drewN nq
          clear hc hf hG S1 ep eq1
          generalize wr.drewN nq = w2 at S2 ⊢
          obtain ⟨G2, hG2, hc2, hf2⟩ := row_facts S2.out R hds
          obtain ⟨rp, hrp⟩ : ∃ rp, rp = F + root := ⟨_, rfl⟩
          obtain ⟨cp, hcp⟩ : ∃ cp, cp = F + c := ⟨_, rfl⟩
          have er : (F : Int) + (root : Int) = (rp : Int) := by omega
          have ec : (F : Int) + (c : Int) = (cp : Int) := by omega
          have hrl : rp < d0.size := by omega
          have hcl : cp < d0.size := by omega
          have hrc : rp ≠ cp := by omega
          have HRP : Hid (rp = F + root) := hrp
          have HCP : Hid (cp = F + c) := hcp
          clear hrp hcp
          obtain ⟨u, hu⟩ := S2.out.c2 R hds rp cp (by omega) (by omega) (.int .u32 (G2 cp))
          go_wp2_with fail
          go_big_quiet (first | (go_at_call 46; refine Calls.quiet_of_same (less_u32 _ _ _)))
          go_wp2
          · have ht : ltInt (G2 rp) (G2 cp) = false := by simp_all
            refine bodyPost_ret (results_none rfl _ _ _) rfl ?_
            refine ⟨rfl, ?_⟩
            have e := Hst.out
            rw [← HRP.out, ← HCP.out, ← hG2.out rp, ← hG2.out cp, ht, if_pos rfl] at e
            rw [← H.out, e]
            exact S2.out.drewN nq
          · have ht : ltInt (G2 rp) (G2 cp) = true := by simp_all
            go_region
            all_goals go_wp2
            go_roundw
            case rel =>
              have h3 := Hch.out
              refine ⟨c, swp dk rp cp, rfl, by omega, by rw [size_swp]; exact hds, ?_, ?_⟩
              · have := (S2.out.drewN nq).swapped R rp cp (by omega) (by omega)
                rw [← hG2.out rp, ← hG2.out cp] at this
                exact this
              · have e := Hst.out
                rw [← HRP.out, ← HCP.out, ← hG2.out rp, ← hG2.out cp, ht, if_neg (by simp)] at e
                rw [← H.out, e]
                exact rfl
            case measure => have h3 := Hch.out; simp [intOf]; omega
      · clear hc0 hp hq hc2
        go_wp2_with fail
        go_big_quiet (fail)
        go_wp2
        have Hch : Hid (c = 2 * root + 1 ∧ F + c < d0.size + 0 ∧ root < c ∧ c < hi) := by have := HC.out; exact ⟨by omega, by omega, by omega, h1⟩
        have Hst : Hid (siftDown ltInt hi F root dk = if ltInt dk[F + root]! dk[F + c]! = false then dk else siftDown ltInt hi F c (swp dk (F + root) (F + c))) := by
          have a1 := HC.out; have a2 := HC2.out
          rw [a1]
          exact sift_left hi F root dk (by omega) (.inl (by omega))
        have hb1 : F + c < d0.size ∧ root < c := ⟨by have := Hch.out; omega, Hch.out.2.2.1⟩
        have hb2 := hb1.1
        have hb3 := hb1.2
        clear hb1
        have S2 : Hid (SW (.int .u32) w0 blk off dk (wr.drewN nq)) := S1.out.drewN nq
        clear hc hf hG S1 ep eq1
        generalize wr.drewN nq = w2 at S2 ⊢
        obtain ⟨G2, hG2, hc2, hf2⟩ := row_facts S2.out R hds
        obtain ⟨rp, hrp⟩ : ∃ rp, rp = F + root := ⟨_, rfl⟩
        obtain ⟨cp, hcp⟩ : ∃ cp, cp = F + c := ⟨_, rfl⟩
        have er : (F : Int) + (root : Int) = (rp : Int) := by omega
        have ec : (F : Int) + (c : Int) = (cp : Int) := by omega
        have hrl : rp < d0.size := by omega
        have hcl : cp < d0.size := by omega
        have hrc : rp ≠ cp := by omega
        have HRP : Hid (rp = F + root) := hrp
        have HCP : Hid (cp = F + c) := hcp
        clear hrp hcp
        obtain ⟨u, hu⟩ := S2.out.c2 R hds rp cp (by omega) (by omega) (.int .u32 (G2 cp))
        go_wp2_with fail
        go_big_quiet (first | (go_at_call 46; refine Calls.quiet_of_same (less_u32 _ _ _)))
        go_wp2
        · have ht : ltInt (G2 rp) (G2 cp) = false := by simp_all
          refine bodyPost_ret (results_none rfl _ _ _) rfl ?_
          refine ⟨rfl, ?_⟩
          have e := Hst.out
          rw [← HRP.out, ← HCP.out, ← hG2.out rp, ← hG2.out cp, ht, if_pos rfl] at e
          rw [← H.out, e]
          exact S2.out.drewN nq
        · have ht : ltInt (G2 rp) (G2 cp) = true := by simp_all
          go_region
          all_goals go_wp2
          go_roundw
          case rel =>
            have h3 := Hch.out
            refine ⟨c, swp dk rp cp, rfl, by omega, by rw [size_swp]; exact hds, ?_, ?_⟩
            · have := (S2.out.drewN nq).swapped R rp cp (by omega) (by omega)
              rw [← hG2.out rp, ← hG2.out cp] at this
              exact this
            · have e := Hst.out
              rw [← HRP.out, ← HCP.out, ← hG2.out rp, ← hG2.out cp, ht, if_neg (by simp)] at e
              rw [← H.out, e]
              exact rfl
          case measure => have h3 := Hch.out; simp [intOf]; omega
    · have e := sift_stop hi F root dk (by omega)
      clear hc0
      go_wp2
      go_end0
      refine ⟨rfl, ?_⟩
      rw [← H.out, e]
      exact S1.out
end Go.Proofs.Ytconaifcjnpabaa.P

namespace Go.Proofs.Ytconaifcjnpabaa.P
open Go.RowKit Go.Sort Go.Shelf Go.Lib
set_option linter.unusedVariables false
set_option linter.unusedSimpArgs false
theorem sift_size (hi F root : Nat) (d : Array Int) : (siftDown ltInt hi F root d).size = d.size := size_siftDown ltInt hi F _ root d (Nat.le_refl _)
set_option maxHeartbeats 8000000 in
set_option maxRecDepth 100000 in
theorem heap_u32 (blk off cap a b : Nat) (d0 d : Array Int) (w0 w : World) (R : Row1 (.int .u32) w0 blk off d0) (hs : d.size = d0.size) (S : SW (.int .u32) w0 blk off d w) (hab : a < b) (hb : b ≤ d0.size) (hsz : d0.size < 4611686018427387904) :
    Calls Try.prog 41 #[.slice (some ⟨blk, off, none⟩) d0.size cap, .int .i64 a, .int .i64 b] w fun e w' => e = .returned (.tuple #[]) ∧ SW (.int .u32) w0 blk off (heapSort ltInt d a b) w' := by
  have S0 : Hid (SW (.int .u32) w0 blk off d w) := S
  clear S
  obtain ⟨n, hn⟩ : ∃ n, n = b - a := ⟨_, rfl⟩
  have en : (b : Int) - (a : Int) = (n : Int) := by omega
  obtain ⟨m, hm⟩ : ∃ m : Nat, m = (n - 1) / 2 := ⟨_, rfl⟩
  have em : ((n : Int) - 1).tdiv 2 = (m : Int) := by rw [Int.tdiv_eq_ediv_of_nonneg (by omega)]; omega
  have hnb : a + n ≤ d0.size := by omega
  have hmn : m ≤ n := by omega
  have HN : Hid (heapSort ltInt d a b = heapPop ltInt a n (heapBuild ltInt n a (m + 1) d)) := by rw [hm, hn]; exact rfl
  have hnl : n < 4611686018427387904 := by omega
  clear hn hm
  go_enter Try.func41, Try.ntmps41
  go_wp2
  go_loopw [9] (fun vi wr => ∃ (k : Nat) (dk : Array Int), vi = .int .i64 ((k : Int) - 1) ∧ k ≤ m + 1 ∧ dk.size = d0.size ∧ Hid (SW (.int .u32) w0 blk off dk wr) ∧ Hid (heapBuild ltInt n a k dk = heapBuild ltInt n a (m + 1) d))
    (fun vi _ => (intOf vi + 1).toNat)
  case atStart => exact ⟨m + 1, d, by congr 1; omega, Nat.le_refl _, hs, S0, rfl⟩
  case round =>
    clear S0 hs
    obtain ⟨k, dk, rfl, hk, hds, S1, H⟩ := hrel
    cases k with
    | zero =>
      have e1 : dk = heapBuild ltInt n a (m + 1) d := H.out
      have HE : Hid (dk = heapBuild ltInt n a (m + 1) d) := e1
      clear e1 H hk
      go_wp2
      go_loopw [10] (fun vi wr => ∃ (k : Nat) (dj : Array Int), vi = .int .i64 ((k : Int) - 1) ∧ k ≤ n ∧ dj.size = d0.size ∧ Hid (SW (.int .u32) w0 blk off dj wr) ∧ Hid (heapPop ltInt a k dj = heapPop ltInt a n dk))
        (fun vi _ => (intOf vi + 1).toNat)
      case atStart => exact ⟨n, dk, rfl, Nat.le_refl _, hds, S1, rfl⟩
      case round =>
        clear S1 hds
        obtain ⟨k, dj, rfl, hk, hdj, S2, H2⟩ := hrel
        cases k with
        | zero =>
          go_wp2
          go_end0
          refine ⟨rfl, ?_⟩
          rw [HN.out, ← HE.out, ← H2.out]
          exact S2.out
        | succ i =>
          have ei : ((i + 1 : Nat) : Int) - 1 = (i : Int) := by omega
          rw [ei]
          obtain ⟨G, hG, hc, hf⟩ := row_facts S2.out R hdj
          obtain ⟨p, hp⟩ : ∃ p, p = a + i := ⟨_, rfl⟩
          have ep : (a : Int) + (i : Int) = (p : Int) := by omega
          have hpl : p < d0.size := by omega
          have hal : a < d0.size := by omega
          obtain ⟨u, hu⟩ := S2.out.c2 R hdj a p (by omega) (by omega) (.int .u32 (G p))
          have hin : i ≤ n := by omega
          have S3 : Hid (SW (.int .u32) w0 blk off (swp dj a p) ((wr.setCell ⟨blk, off + a, none⟩ (.int .u32 (G p))).setCell ⟨blk, off + p, none⟩ (.int .u32 (G a))).drew) := by
            have := S2.out.swapped R a p (by omega) (by omega)
            rw [← hG.out a, ← hG.out p] at this
            exact this
          have HP : Hid (p = a + i) := hp
          have hcall := sift_u32 blk off cap 0 i a d0 (swp dj a p) w0 ((wr.setCell ⟨blk, off + a, none⟩ (.int .u32 (G p))).setCell ⟨blk, off + p, none⟩ (.int .u32 (G a))).drew R (by rw [size_swp]; exact hdj) S3.out (by omega) (by omega) hsz
          have HCON := Hid.mk' hcall
          clear hcall
          by_cases hne : a = p
          · subst hne
            clear hp
            go_wp2_with fail
            go_region
            all_goals (go_wp2_with (first | (go_at_call 59; refine HCON.out.mono ?_; rintro e w1 ⟨rfl, h1⟩; have S4 := Hid.mk' h1; clear h1)))
            rotate_left
            go_roundw
            case rel =>
              repeat apply Exists.intro
              refine ⟨⟨i, siftDown ltInt i a 0 (swp dj a a), rfl, hin, by rw [sift_size, size_swp]; exact hdj, S4.out, ?_⟩, rfl⟩
              have h := H2.out
              rw [heapPop, ← HP.out] at h
              exact h
            case measure => simp [intOf]
            all_goals exact Value.bool false
          · clear hp
            go_wp2_with fail
            go_region
            all_goals (go_wp2_with (first | (go_at_call 59; refine HCON.out.mono ?_; rintro e w1 ⟨rfl, h1⟩; have S4 := Hid.mk' h1; clear h1)))
            go_roundw
            case rel =>
              repeat apply Exists.intro
              refine ⟨⟨i, siftDown ltInt i a 0 (swp dj a p), rfl, hin, by rw [sift_size, size_swp]; exact hdj, S4.out, ?_⟩, rfl⟩
              have h := H2.out
              rw [heapPop, ← HP.out] at h
              exact h
            case measure => simp [intOf]
    | succ k =>
      have ei : ((k + 1 : Nat) : Int) - 1 = (k : Int) := by omega
      rw [ei]
      have HCON := Hid.mk' (sift_u32 blk off cap k n a d0 dk w0 wr R hds S1.out (by omega) (by omega) hsz)
      go_wp2_with (first | (go_at_call 59; refine HCON.out.mono ?_; rintro e w1 ⟨rfl, h1⟩; have S4 := Hid.mk' h1; clear h1))
      go_roundw
      case rel => exact ⟨k, siftDown ltInt n a k dk, rfl, by omega, by rw [sift_size]; exact hds, S4.out, H.out⟩
      case measure => simp [intOf]
end Go.Proofs.Ytconaifcjnpabaa.P

namespace Go.Proofs.Ytconaifcjnpabaa.P
open Go.RowKit Go.Sort Go.Shelf Go.Lib
set_option linter.unusedVariables false
set_option linter.unusedSimpArgs false
set_option maxHeartbeats 16000000 in
set_option maxRecDepth 100000 in
theorem partition_u32 (blk off cap a b pivot : Nat) (d0 d : Array Int) (w0 w : World) (R : Row1 (.int .u32) w0 blk off d0) (hs : d.size = d0.size) (S : SW (.int .u32) w0 blk off d w) (hap : a ≤ pivot) (hpb : pivot < b) (hb : b ≤ d0.size) (hsz : d0.size < 4611686018427387904) :
    Calls Try.prog 48 #[.slice (some ⟨blk, off, none⟩) d0.size cap, .int .i64 a, .int .i64 b, .int .i64 pivot] w fun e w' =>
      e = .returned (.tuple #[.int .i64 (Sort.partition ltInt d a b pivot).1, .bool (Sort.partition ltInt d a b pivot).2.1]) ∧ SW (.int .u32) w0 blk off (Sort.partition ltInt d a b pivot).2.2 w' := by
  have hal : a < d0.size := by omega
  have hpl0 : pivot < d0.size := by omega
  obtain ⟨G, hG, hc, hf⟩ := row_facts S R hs
  obtain ⟨u, hu⟩ := S.c2 R hs a pivot (by omega) (by omega) (.int .u32 (G pivot))
  have S0 : Hid (SW (.int .u32) w0 blk off (swp d a pivot) ((w.setCell ⟨blk, off + a, none⟩ (.int .u32 (G pivot))).setCell ⟨blk, off + pivot, none⟩ (.int .u32 (G a))).drew) := by
    have := S.swapped R a pivot (by omega) (by omega)
    rw [← hG.out a, ← hG.out pivot] at this
    exact this
  clear S
  go_enter Try.func48, Try.ntmps48
  go_wp2
  go_region
  all_goals go_wp2
  clear hc hf hu
  generalize ((w.setCell ⟨blk, off + a, none⟩ (.int .u32 (G pivot))).setCell ⟨blk, off + pivot, none⟩ (.int .u32 (G a))).drew = w1 at S0 ⊢
  clear hG
  obtain ⟨i, hi⟩ : ∃ i : Nat, i = a + 1 := ⟨_, rfl⟩
  obtain ⟨j, hj⟩ : ∃ j : Nat, j = b - 1 := ⟨_, rfl⟩
  obtain ⟨dk, hdk⟩ : ∃ dk : Array Int, dk = swp d a pivot := ⟨_, rfl⟩
  have S1 : Hid (SW (.int .u32) w0 blk off dk w1) := by rw [hdk]; exact S0.out
  clear S0
  have hds : dk.size = d0.size := by rw [hdk, size_swp]; exact hs
  have e1 : ((a : Int) + 1) = (i : Int) := by omega
  have e2 : ((b : Int) - 1) = (j : Int) := by omega
  rw [e1, e2]
  clear e1 e2
  have hai : a < i := by omega
  have hij : i ≤ j + 1 := by omega
  have hjb : j < b := by omega
  have Hi : Hid (i = a + 1) := hi
  have Hj : Hid (j = b - 1) := hj
  have Hdk : Hid (dk = swp d a pivot) := hdk
  clear hi hj hdk hs
  go_loopw [10] (fun vi wr => ∃ p : Nat, vi = .int .i64 p ∧ i ≤ p ∧ p ≤ j + 1 ∧ Hid (SW (.int .u32) w0 blk off dk wr) ∧ Hid (scanUp (fun x => ltInt x dk[a]!) dk j p = scanUp (fun x => ltInt x dk[a]!) dk j i))
    (fun vi _ => j + 1 - (intOf vi).toNat)
  case atStart => exact ⟨i, rfl, Nat.le_refl _, hij, S1, rfl⟩
  case round =>
    clear S1
    obtain ⟨p, rfl, hip, hpj, S2, HU⟩ := hrel
    by_cases hle : p ≤ j
    · obtain ⟨G, hG, hc, hf⟩ := row_facts S2.out R hds
      have hpl : p < d0.size := by omega
      go_wp2_with fail
      go_big_quiet (first | (go_at_call 46; refine Calls.quiet_of_same (less_u32 _ _ _)))
      go_wp2
      · have ht : ltInt (G p) (G a) = true := by assumption
        go_roundw
        case rel => exact ⟨p + 1, by go_num, by omega, by omega, S2.out.drewN nq, (scanUp_go (fun x => ltInt x dk[a]!) dk j p hle (by rw [← hG.out a, ← hG.out p]; exact ht)).symm.trans HU.out⟩
        case measure => simp [intOf]; omega
      · have ht : ltInt (G p) (G a) = false := by assumption
        have HI2 : Hid (p = scanUp (fun x => ltInt x dk[a]!) dk j i) := (scanUp_end (fun x => ltInt x dk[a]!) dk j p (.inr (by rw [← hG.out a, ← hG.out p]; exact ht))).symm.trans HU.out
        have S3 : Hid (SW (.int .u32) w0 blk off dk (wr.drewN nq)) := S2.out.drewN nq
        clear hc hf hG S2 HU ht
        go_loopw [11] (fun vj wr => ∃ q : Nat, vj = .int .i64 q ∧ q ≤ j ∧ p ≤ q + 1 ∧ Hid (SW (.int .u32) w0 blk off dk wr) ∧ Hid (scanDown (fun x => !ltInt x dk[a]!) dk p q = scanDown (fun x => !ltInt x dk[a]!) dk p j))
          (fun vj _ => (intOf vj).toNat)
        case atStart => exact ⟨j, rfl, Nat.le_refl _, hpj, S3, rfl⟩
        case round =>
          clear S3
          obtain ⟨q, rfl, hqj, hpq, S4, HD⟩ := hrel
          by_cases hle2 : p ≤ q
          · obtain ⟨G, hG, hc, hf⟩ := row_facts S4.out R hds
            have hql : q < d0.size := by omega
            go_wp2_with fail
            go_big_quiet (first | (go_at_call 46; refine Calls.quiet_of_same (less_u32 _ _ _)))
            go_wp2
            · have ht : (!ltInt (G q) (G a)) = true := by assumption
              go_roundw
              case rel => exact ⟨q - 1, by go_num, by omega, by omega, S4.out.drewN nq, (scanDown_go (fun x => !ltInt x dk[a]!) dk p q hle2 (by omega) (by rw [← hG.out a, ← hG.out q]; exact ht)).symm.trans HD.out⟩
              case measure => simp [intOf]; omega
            · have ht : (!ltInt (G q) (G a)) = false := by assumption
              have HJ2 : Hid (q = scanDown (fun x => !ltInt x dk[a]!) dk p j) := (scanDown_end (fun x => !ltInt x dk[a]!) dk p q (.inr (by rw [← hG.out a, ← hG.out q]; exact ht))).symm.trans HD.out
              have S5 : Hid (SW (.int .u32) w0 blk off dk (wr.drewN nq)) := S4.out.drewN nq
              clear hc hf hG S4 HD ht
              generalize wr.drewN nq = w5 at S5 ⊢
              have hlt := part_scans_lt ltInt a i j dk (by omega) HI2.out HJ2.out hle2
              obtain ⟨G, hG, hc, hf⟩ := row_facts S5.out R hds
              have hpl : p < d0.size := by omega
              have hql : q < d0.size := by omega
              obtain ⟨u, hu⟩ := S5.out.c2 R hds p q (by omega) (by omega) (.int .u32 (G q))
              have S6 : Hid (SW (.int .u32) w0 blk off (swp dk p q) ((w5.setCell ⟨blk, off + p, none⟩ (.int .u32 (G q))).setCell ⟨blk, off + q, none⟩ (.int .u32 (G p))).drew) := by
                have := S5.out.swapped R p q (by omega) (by omega)
                rw [← hG.out p, ← hG.out q] at this
                exact this
              clear S5
              go_wp2
              go_region
              all_goals go_wp2
              obtain ⟨Rr, hR⟩ : ∃ Rr, Rr = partLoop ltInt a (p + 1) (q - 1) (swp dk p q) := ⟨_, rfl⟩
              have HP : Hid (Sort.partition ltInt d a b pivot = (Rr.1, false, swp Rr.2 Rr.1 a)) := by rw [hR]; exact part_first_go ltInt d a b pivot Hi.out Hj.out Hdk.out HI2.out HJ2.out (by omega)
              have HR : Hid (Rr = partLoop ltInt a (p + 1) (q - 1) (swp dk p q)) := hR
              clear hR hc hf hG hu HI2 HJ2
              go_loopw [10, 11] (fun vi vj wr => ∃ (i j : Nat) (dk : Array Int), vi = .int .i64 i ∧ vj = .int .i64 j ∧ a < i ∧ i ≤ j + 1 ∧ j < b ∧ dk.size = d0.size ∧ Hid (SW (.int .u32) w0 blk off dk wr) ∧ Hid (partLoop ltInt a i j dk = Rr))
                (fun vi vj _ => (intOf vj).toNat + 1 - (intOf vi).toNat)
              case atStart => exact ⟨p + 1, q - 1, swp dk p q, by go_num, by go_num, by omega, by omega, by omega, by rw [size_swp]; exact hds, S6, HR.out.symm⟩
              case round =>
                clear S6 HR
                clear hai hij hjb hip hpj hle hle2 hlt hqj hpq hpl hql hds Hi Hj Hdk
                obtain ⟨i1, j1, dk1, rfl, rfl, hai, hij, hjb, hds, S1, HL⟩ := hrel
                go_wp2
                go_loopw [10] (fun vi wr => ∃ p1 : Nat, vi = .int .i64 p1 ∧ i1 ≤ p1 ∧ p1 ≤ j1 + 1 ∧ Hid (SW (.int .u32) w0 blk off dk1 wr) ∧ Hid (scanUp (fun x => ltInt x dk1[a]!) dk1 j1 p1 = scanUp (fun x => ltInt x dk1[a]!) dk1 j1 i1))
                  (fun vi _ => j1 + 1 - (intOf vi).toNat)
                case atStart => exact ⟨i1, rfl, Nat.le_refl _, hij, S1, rfl⟩
                case round =>
                  clear S1
                  obtain ⟨p1, rfl, hip, hpj, S2, HU⟩ := hrel
                  by_cases hle : p1 ≤ j1
                  · obtain ⟨G, hG, hc, hf⟩ := row_facts S2.out R hds
                    have hpl : p1 < d0.size := by omega
                    go_wp2_with fail
                    go_big_quiet (first | (go_at_call 46; refine Calls.quiet_of_same (less_u32 _ _ _)))
                    go_wp2
                    · have ht : ltInt (G p1) (G a) = true := by assumption
                      go_roundw
                      case rel => exact ⟨p1 + 1, by go_num, by omega, by omega, S2.out.drewN nq, (scanUp_go (fun x => ltInt x dk1[a]!) dk1 j1 p1 hle (by rw [← hG.out a, ← hG.out p1]; exact ht)).symm.trans HU.out⟩
                      case measure => simp [intOf]; omega
                    · have ht : ltInt (G p1) (G a) = false := by assumption
                      have HI2 : Hid (p1 = scanUp (fun x => ltInt x dk1[a]!) dk1 j1 i1) := (scanUp_end (fun x => ltInt x dk1[a]!) dk1 j1 p1 (.inr (by rw [← hG.out a, ← hG.out p1]; exact ht))).symm.trans HU.out
                      have S3 : Hid (SW (.int .u32) w0 blk off dk1 (wr.drewN nq)) := S2.out.drewN nq
                      clear hc hf hG S2 HU ht
                      go_loopw [11] (fun vj wr => ∃ q1 : Nat, vj = .int .i64 q1 ∧ q1 ≤ j1 ∧ p1 ≤ q1 + 1 ∧ Hid (SW (.int .u32) w0 blk off dk1 wr) ∧ Hid (scanDown (fun x => !ltInt x dk1[a]!) dk1 p1 q1 = scanDown (fun x => !ltInt x dk1[a]!) dk1 p1 j1))
                        (fun vj _ => (intOf vj).toNat)
                      case atStart => exact ⟨j1, rfl, Nat.le_refl _, hpj, S3, rfl⟩
                      case round =>
                        clear S3
                        obtain ⟨q1, rfl, hqj, hpq, S4, HD⟩ := hrel
                        by_cases hle2 : p1 ≤ q1
                        · obtain ⟨G, hG, hc, hf⟩ := row_facts S4.out R hds
                          have hql : q1 < d0.size := by omega
                          go_wp2_with fail
                          go_big_quiet (first | (go_at_call 46; refine Calls.quiet_of_same (less_u32 _ _ _)))
                          go_wp2
                          · have ht : (!ltInt (G q1) (G a)) = true := by assumption
                            go_roundw
                            case rel => exact ⟨q1 - 1, by go_num, by omega, by omega, S4.out.drewN nq, (scanDown_go (fun x => !ltInt x dk1[a]!) dk1 p1 q1 hle2 (by omega) (by rw [← hG.out a, ← hG.out q1]; exact ht)).symm.trans HD.out⟩
                            case measure => simp [intOf]; omega
                          · have ht : (!ltInt (G q1) (G a)) = false := by assumption
                            have HJ2 : Hid (q1 = scanDown (fun x => !ltInt x dk1[a]!) dk1 p1 j1) := (scanDown_end (fun x => !ltInt x dk1[a]!) dk1 p1 q1 (.inr (by rw [← hG.out a, ← hG.out q1]; exact ht))).symm.trans HD.out
                            have S5 : Hid (SW (.int .u32) w0 blk off dk1 (wr.drewN nq)) := S4.out.drewN nq
                            clear hc hf hG S4 HD ht
                            generalize wr.drewN nq = w5 at S5 ⊢
                            have hlt := part_scans_lt ltInt a i1 j1 dk1 (by omega) HI2.out HJ2.out hle2
                            obtain ⟨G, hG, hc, hf⟩ := row_facts S5.out R hds
                            have hpl : p1 < d0.size := by omega
                            have hql : q1 < d0.size := by omega
                            obtain ⟨u, hu⟩ := S5.out.c2 R hds p1 q1 (by omega) (by omega) (.int .u32 (G q1))
                            have S6 : Hid (SW (.int .u32) w0 blk off (swp dk1 p1 q1) ((w5.setCell ⟨blk, off + p1, none⟩ (.int .u32 (G q1))).setCell ⟨blk, off + q1, none⟩ (.int .u32 (G p1))).drew) := by
                              have := S5.out.swapped R p1 q1 (by omega) (by omega)
                              rw [← hG.out p1, ← hG.out q1] at this
                              exact this
                            clear S5
                            go_wp2
                            go_region
                            all_goals go_wp2
                            go_roundw
                            case rel =>
                              refine ⟨p1 + 1, q1 - 1, swp dk1 p1 q1, by go_num, by go_num, by omega, by omega, by omega, by rw [size_swp]; exact hds, S6, ?_⟩
                              rw [← HL.out, part_go ltInt a i1 j1 dk1 HI2.out HJ2.out (by omega)]
                              exact rfl
                            case measure => simp [intOf]; omega
                        · have HJ2 : Hid (q1 = scanDown (fun x => !ltInt x dk1[a]!) dk1 p1 j1) := (scanDown_end (fun x => !ltInt x dk1[a]!) dk1 p1 q1 (.inl hle2)).symm.trans HD.out
                          go_wp2_with fail
                          go_big_quiet (fail)
                          have S5 : Hid (SW (.int .u32) w0 blk off dk1 (wr.drewN nq)) := S4.out.drewN nq
                          clear S4 HD
                          generalize wr.drewN nq = w5 at S5 ⊢
                          have hlt : q1 < p1 := by omega
                          go_wp2_with fail
                          obtain ⟨G, hG, hc, hf⟩ := row_facts S5.out R hds
                          have hql : q1 < d0.size := by omega
                          have hal : a < d0.size := by omega
                          obtain ⟨u, hu⟩ := S5.out.c2 R hds q1 a (by omega) (by omega) (.int .u32 (G a))
                          have S6 : Hid (SW (.int .u32) w0 blk off (swp dk1 q1 a) ((w5.setCell ⟨blk, off + q1, none⟩ (.int .u32 (G a))).setCell ⟨blk, off + a, none⟩ (.int .u32 (G q1))).drew) := by
                            have := S5.out.swapped R q1 a (by omega) (by omega)
                            rw [← hG.out q1, ← hG.out a] at this
                            exact this
                          clear S5
                          go_wp2
                          go_region
                          all_goals go_wp2
                          go_ret2
                          have e := HL.out
                          rw [part_break ltInt a i1 j1 dk1 HI2.out HJ2.out hlt] at e
                          rw [HP.out, ← e]
                          exact ⟨rfl, S6.out⟩
                  · have HI2 : Hid (p1 = scanUp (fun x => ltInt x dk1[a]!) dk1 j1 i1) := (scanUp_end (fun x => ltInt x dk1[a]!) dk1 j1 p1 (.inl hle)).symm.trans HU.out
                    go_wp2_with fail
                    go_big_quiet (fail)
                    have S3 : Hid (SW (.int .u32) w0 blk off dk1 (wr.drewN nq)) := S2.out.drewN nq
                    clear S2 HU
                    generalize wr.drewN nq = w3 at S3 ⊢
                    go_wp2_with fail
                    go_loopw [11] (fun vj wr => vj = .int .i64 j1 ∧ Hid (SW (.int .u32) w0 blk off dk1 wr)) (fun vj _ => 0)
                    case atStart => exact ⟨rfl, S3⟩
                    case round =>
                      clear S3
                      obtain ⟨rfl, S4⟩ := hrel
                      have HJ2 : Hid (j1 = scanDown (fun x => !ltInt x dk1[a]!) dk1 p1 j1) := (scanDown_end (fun x => !ltInt x dk1[a]!) dk1 p1 j1 (.inl hle)).symm
                      go_wp2_with fail
                      go_big_quiet (fail)
                      have S5 : Hid (SW (.int .u32) w0 blk off dk1 (wr.drewN nq)) := S4.out.drewN nq
                      clear S4
                      generalize wr.drewN nq = w5 at S5 ⊢
                      have hlt : j1 < p1 := by omega
                      go_wp2_with fail
                      obtain ⟨G, hG, hc, hf⟩ := row_facts S5.out R hds
                      have hql : j1 < d0.size := by omega
                      have hal : a < d0.size := by omega
                      obtain ⟨u, hu⟩ := S5.out.c2 R hds j1 a (by omega) (by omega) (.int .u32 (G a))
                      have S6 : Hid (SW (.int .u32) w0 blk off (swp dk1 j1 a) ((w5.setCell ⟨blk, off + j1, none⟩ (.int .u32 (G a))).setCell ⟨blk, off + a, none⟩ (.int .u32 (G j1))).drew) := by
                        have := S5.out.swapped R j1 a (by omega) (by omega)
                        rw [← hG.out j1, ← hG.out a] at this
                        exact this
                      clear S5
                      go_wp2
                      go_region
                      all_goals go_wp2
                      go_ret2
                      have e := HL.out
                      rw [part_break ltInt a i1 j1 dk1 HI2.out HJ2.out hlt] at e
                      rw [HP.out, ← e]
                      exact ⟨rfl, S6.out⟩
          · have HJ2 : Hid (q = scanDown (fun x => !ltInt x dk[a]!) dk p j) := (scanDown_end (fun x => !ltInt x dk[a]!) dk p q (.inl hle2)).symm.trans HD.out
            go_wp2_with fail
            go_big_quiet (fail)
            have S5 : Hid (SW (.int .u32) w0 blk off dk (wr.drewN nq)) := S4.out.drewN nq
            clear S4 HD
            generalize wr.drewN nq = w5 at S5 ⊢
            have hlt : q < p := by omega
            go_wp2_with fail
            obtain ⟨G, hG, hc, hf⟩ := row_facts S5.out R hds
            have hql : q < d0.size := by omega
            have hal : a < d0.size := by omega
            obtain ⟨u, hu⟩ := S5.out.c2 R hds q a (by omega) (by omega) (.int .u32 (G a))
            have S6 : Hid (SW (.int .u32) w0 blk off (swp dk q a) ((w5.setCell ⟨blk, off + q, none⟩ (.int .u32 (G a))).setCell ⟨blk, off + a, none⟩ (.int .u32 (G q))).drew) := by
              have := S5.out.swapped R q a (by omega) (by omega)
              rw [← hG.out q, ← hG.out a] at this
              exact this
            clear S5
            go_wp2
            go_region
            all_goals go_wp2
            go_ret2
            have e := part_first_break ltInt d a b pivot Hi.out Hj.out Hdk.out HI2.out HJ2.out hlt
            rw [e]
            exact ⟨rfl, S6.out⟩
    · have HI2 : Hid (p = scanUp (fun x => ltInt x dk[a]!) dk j i) := (scanUp_end (fun x => ltInt x dk[a]!) dk j p (.inl hle)).symm.trans HU.out
      go_wp2_with fail
      go_big_quiet (fail)
      have S3 : Hid (SW (.int .u32) w0 blk off dk (wr.drewN nq)) := S2.out.drewN nq
      clear S2 HU
      generalize wr.drewN nq = w3 at S3 ⊢
      go_wp2_with fail
      go_loopw [11] (fun vj wr => vj = .int .i64 j ∧ Hid (SW (.int .u32) w0 blk off dk wr)) (fun vj _ => 0)
      case atStart => exact ⟨rfl, S3⟩
      case round =>
        clear S3
        obtain ⟨rfl, S4⟩ := hrel
        have HJ2 : Hid (j = scanDown (fun x => !ltInt x dk[a]!) dk p j) := (scanDown_end (fun x => !ltInt x dk[a]!) dk p j (.inl hle)).symm
        go_wp2_with fail
        go_big_quiet (fail)
        have S5 : Hid (SW (.int .u32) w0 blk off dk (wr.drewN nq)) := S4.out.drewN nq
        clear S4
        generalize wr.drewN nq = w5 at S5 ⊢
        have hlt : j < p := by omega
        go_wp2_with fail
        obtain ⟨G, hG, hc, hf⟩ := row_facts S5.out R hds
        have hql : j < d0.size := by omega
        have hal : a < d0.size := by omega
        obtain ⟨u, hu⟩ := S5.out.c2 R hds j a (by omega) (by omega) (.int .u32 (G a))
        have S6 : Hid (SW (.int .u32) w0 blk off (swp dk j a) ((w5.setCell ⟨blk, off + j, none⟩ (.int .u32 (G a))).setCell ⟨blk, off + a, none⟩ (.int .u32 (G j))).drew) := by
          have := S5.out.swapped R j a (by omega) (by omega)
          rw [← hG.out j, ← hG.out a] at this
          exact this
        clear S5
        go_wp2
        go_region
        all_goals go_wp2
        go_ret2
        have e := part_first_break ltInt d a b pivot Hi.out Hj.out Hdk.out HI2.out HJ2.out hlt
        rw [e]
        exact ⟨rfl, S6.out⟩
end Go.Proofs.Ytconaifcjnpabaa.P

namespace Go.Proofs.Ytconaifcjnpabaa.P
open Go.RowKit Go.Sort Go.Shelf Go.Lib
set_option linter.unusedVariables false
set_option linter.unusedSimpArgs false
theorem eq_end (a i j p q : Nat) (d : Array Int) (hp : p = scanUp (fun x => !ltInt d[a]! x) d j i) (hq : q = scanDown (fun x => ltInt d[a]! x) d p j) (h : q < p) : partEqLoop ltInt a i j d = (p, d) := by
  subst hp; subst hq
  rw [partEqLoop_eq, if_pos h]
theorem eq_go (a i j p q : Nat) (d : Array Int) (hp : p = scanUp (fun x => !ltInt d[a]! x) d j i) (hq : q = scanDown (fun x => ltInt d[a]! x) d p j) (h : ¬ p > q) : partEqLoop ltInt a i j d = partEqLoop ltInt a (p + 1) (q - 1) (swp d p q) := by
  subst hp; subst hq
  rw [partEqLoop_eq, if_neg h]
set_option maxHeartbeats 16000000 in
set_option maxRecDepth 100000 in
theorem partEq_u32 (blk off cap a b pivot : Nat) (d0 d : Array Int) (w0 w : World) (R : Row1 (.int .u32) w0 blk off d0) (hs : d.size = d0.size) (S : SW (.int .u32) w0 blk off d w) (hap : a ≤ pivot) (hpb : pivot < b) (hb : b ≤ d0.size) (hsz : d0.size < 4611686018427387904) :
    Calls Try.prog 47 #[.slice (some ⟨blk, off, none⟩) d0.size cap, .int .i64 a, .int .i64 b, .int .i64 pivot] w fun e w' =>
      e = .returned (.int .i64 (partitionEqual ltInt d a b pivot).1) ∧ SW (.int .u32) w0 blk off (partitionEqual ltInt d a b pivot).2 w' := by
  have hal : a < d0.size := by omega
  have hpl0 : pivot < d0.size := by omega
  obtain ⟨G, hG, hc, hf⟩ := row_facts S R hs
  obtain ⟨u, hu⟩ := S.c2 R hs a pivot (by omega) (by omega) (.int .u32 (G pivot))
  have S0 : Hid (SW (.int .u32) w0 blk off (swp d a pivot) ((w.setCell ⟨blk, off + a, none⟩ (.int .u32 (G pivot))).setCell ⟨blk, off + pivot, none⟩ (.int .u32 (G a))).drew) := by
    have := S.swapped R a pivot (by omega) (by omega)
    rw [← hG.out a, ← hG.out pivot] at this
    exact this
  clear S
  go_enter Try.func47, Try.ntmps47
  go_wp2
  go_region
  all_goals go_wp2
  clear hc hf hu
  generalize ((w.setCell ⟨blk, off + a, none⟩ (.int .u32 (G pivot))).setCell ⟨blk, off + pivot, none⟩ (.int .u32 (G a))).drew = w1 at S0 ⊢
  clear hG
  obtain ⟨Rr, hR⟩ : ∃ Rr, Rr = partEqLoop ltInt a (a + 1) (b - 1) (swp d a pivot) := ⟨_, rfl⟩
  have HP : Hid (partitionEqual ltInt d a b pivot = Rr) := by rw [hR]; exact rfl
  have HR : Hid (Rr = partEqLoop ltInt a (a + 1) (b - 1) (swp d a pivot)) := hR
  clear hR
  go_loopw [9, 10] (fun vi vj wr => ∃ (i j : Nat) (dk : Array Int), vi = .int .i64 i ∧ vj = .int .i64 j ∧ a < i ∧ i ≤ j + 1 ∧ j < b ∧ dk.size = d0.size ∧ Hid (SW (.int .u32) w0 blk off dk wr) ∧ Hid (partEqLoop ltInt a i j dk = Rr))
    (fun vi vj _ => (intOf vj).toNat + 1 - (intOf vi).toNat)
  case atStart => exact ⟨a + 1, b - 1, swp d a pivot, by go_num, by congr 1; omega, by omega, by omega, by omega, by rw [size_swp]; exact hs, S0, HR.out.symm⟩
  case round =>
    clear S0 HR hs
    obtain ⟨i, j, dk, rfl, rfl, hai, hij, hjb, hds, S1, HL⟩ := hrel
    go_wp2
    go_loopw [9] (fun vi wr => ∃ p : Nat, vi = .int .i64 p ∧ i ≤ p ∧ p ≤ j + 1 ∧ Hid (SW (.int .u32) w0 blk off dk wr) ∧ Hid (scanUp (fun x => !ltInt dk[a]! x) dk j p = scanUp (fun x => !ltInt dk[a]! x) dk j i))
      (fun vi _ => j + 1 - (intOf vi).toNat)
    case atStart => exact ⟨i, rfl, Nat.le_refl _, hij, S1, rfl⟩
    case round =>
      clear S1
      obtain ⟨p, rfl, hip, hpj, S2, HU⟩ := hrel
      by_cases hle : p ≤ j
      · obtain ⟨G, hG, hc, hf⟩ := row_facts S2.out R hds
        have hpl : p < d0.size := by omega
        go_wp2_with fail
        go_big_quiet (first | (go_at_call 46; refine Calls.quiet_of_same (less_u32 _ _ _)))
        go_wp2
        · have ht : (!ltInt (G a) (G p)) = true := by assumption
          go_roundw
          case rel => exact ⟨p + 1, by go_num, by omega, by omega, S2.out.drewN nq, (scanUp_go (fun x => !ltInt dk[a]! x) dk j p hle (by rw [← hG.out a, ← hG.out p]; exact ht)).symm.trans HU.out⟩
          case measure => simp [intOf]; omega
        · have ht : (!ltInt (G a) (G p)) = false := by assumption
          have HT : Hid (ltInt dk[a]! dk[p]! = true) := by rw [← hG.out a, ← hG.out p]; exact (show ltInt (G a) (G p) = true by simpa using ht)
          have HI2 : Hid (p = scanUp (fun x => !ltInt dk[a]! x) dk j i) := (scanUp_end (fun x => !ltInt dk[a]! x) dk j p (.inr (by rw [← hG.out a, ← hG.out p]; exact ht))).symm.trans HU.out
          have S3 : Hid (SW (.int .u32) w0 blk off dk (wr.drewN nq)) := S2.out.drewN nq
          clear hc hf hG S2 HU ht
          go_loopw [10] (fun vj wr => ∃ q : Nat, vj = .int .i64 q ∧ q ≤ j ∧ p ≤ q + 1 ∧ Hid (SW (.int .u32) w0 blk off dk wr) ∧ Hid (scanDown (fun x => ltInt dk[a]! x) dk p q = scanDown (fun x => ltInt dk[a]! x) dk p j))
            (fun vj _ => (intOf vj).toNat)
          case atStart => exact ⟨j, rfl, Nat.le_refl _, hpj, S3, rfl⟩
          case round =>
            clear S3
            obtain ⟨q, rfl, hqj, hpq, S4, HD⟩ := hrel
            by_cases hle2 : p ≤ q
            · obtain ⟨G, hG, hc, hf⟩ := row_facts S4.out R hds
              have hql : q < d0.size := by omega
              go_wp2_with fail
              go_big_quiet (first | (go_at_call 46; refine Calls.quiet_of_same (less_u32 _ _ _)))
              go_wp2
              · have ht : ltInt (G a) (G q) = true := by assumption
                go_roundw
                case rel => exact ⟨q - 1, by go_num, by omega, by omega, S4.out.drewN nq, (scanDown_go (fun x => ltInt dk[a]! x) dk p q hle2 (by omega) (by rw [← hG.out a, ← hG.out q]; exact ht)).symm.trans HD.out⟩
                case measure => simp [intOf]; omega
              · have ht : ltInt (G a) (G q) = false := by assumption
                have HJ2 : Hid (q = scanDown (fun x => ltInt dk[a]! x) dk p j) := (scanDown_end (fun x => ltInt dk[a]! x) dk p q (.inr (by rw [← hG.out a, ← hG.out q]; exact ht))).symm.trans HD.out
                have hne : p ≠ q := fun e => by
                  have h1 := HT.out
                  rw [e, ← hG.out a, ← hG.out q, ht] at h1
                  exact absurd h1 (by simp)
                have S5 : Hid (SW (.int .u32) w0 blk off dk (wr.drewN nq)) := S4.out.drewN nq
                clear hc hf hG S4 HD ht
                generalize wr.drewN nq = w5 at S5 ⊢
                have hlt : p < q := by omega
                obtain ⟨G, hG, hc, hf⟩ := row_facts S5.out R hds
                have hql : q < d0.size := by omega
                obtain ⟨u, hu⟩ := S5.out.c2 R hds p q (by omega) (by omega) (.int .u32 (G q))
                have S6 : Hid (SW (.int .u32) w0 blk off (swp dk p q) ((w5.setCell ⟨blk, off + p, none⟩ (.int .u32 (G q))).setCell ⟨blk, off + q, none⟩ (.int .u32 (G p))).drew) := by
                  have := S5.out.swapped R p q (by omega) (by omega)
                  rw [← hG.out p, ← hG.out q] at this
                  exact this
                clear S5
                go_wp2
                go_region
                all_goals go_wp2
                go_roundw
                case rel =>
                  refine ⟨p + 1, q - 1, swp dk p q, by go_num, by go_num, by omega, by omega, by omega, by rw [size_swp]; exact hds, S6, ?_⟩
                  rw [← HL.out, eq_go a i j p q dk HI2.out HJ2.out (by omega)]
                  exact rfl
                case measure => simp [intOf]; omega
            · have HJ2 : Hid (q = scanDown (fun x => ltInt dk[a]! x) dk p j) := (scanDown_end (fun x => ltInt dk[a]! x) dk p q (.inl hle2)).symm.trans HD.out
              go_wp2_with fail
              go_big_quiet (fail)
              have S5 : Hid (SW (.int .u32) w0 blk off dk (wr.drewN nq)) := S4.out.drewN nq
              clear S4 HD
              generalize wr.drewN nq = w5 at S5 ⊢
              have hlt : q < p := by omega
              have e := HL.out
              rw [eq_end a i j p q dk HI2.out HJ2.out hlt] at e
              go_wp2
              go_ret
              rw [HP.out, ← e]
              exact ⟨rfl, S5.out⟩
      · have HI2 : Hid (p = scanUp (fun x => !ltInt dk[a]! x) dk j i) := (scanUp_end (fun x => !ltInt dk[a]! x) dk j p (.inl hle)).symm.trans HU.out
        go_wp2_with fail
        go_big_quiet (fail)
        have S3 : Hid (SW (.int .u32) w0 blk off dk (wr.drewN nq)) := S2.out.drewN nq
        clear S2 HU
        generalize wr.drewN nq = w3 at S3 ⊢
        go_wp2_with fail
        go_loopw [10] (fun vj wr => vj = .int .i64 j ∧ Hid (SW (.int .u32) w0 blk off dk wr)) (fun vj _ => 0)
        case atStart => exact ⟨rfl, S3⟩
        case round =>
          clear S3
          obtain ⟨rfl, S4⟩ := hrel
          have HJ2 : Hid (j = scanDown (fun x => ltInt dk[a]! x) dk p j) := (scanDown_end (fun x => ltInt dk[a]! x) dk p j (.inl hle)).symm
          go_wp2_with fail
          go_big_quiet (fail)
          have S5 : Hid (SW (.int .u32) w0 blk off dk (wr.drewN nq)) := S4.out.drewN nq
          clear S4
          generalize wr.drewN nq = w5 at S5 ⊢
          have hlt : j < p := by omega
          have e := HL.out
          rw [eq_end a i j p j dk HI2.out HJ2.out hlt] at e
          go_wp2
          go_ret
          rw [HP.out, ← e]
          exact ⟨rfl, S5.out⟩
end Go.Proofs.Ytconaifcjnpabaa.P

namespace Go.Proofs.Ytconaifcjnpabaa.P
open Go.RowKit Go.Sort Go.Shelf Go.Lib
set_option linter.unusedVariables false
set_option linter.unusedSimpArgs false
theorem scanS_go (d : Array Int) (b i k : Nat) (hk : k = i - 1) (h : i < b) (hl : (!ltInt d[i]! d[k]!) = true) : scanSorted ltInt d b i = scanSorted ltInt d b (i + 1) := by
  subst hk
  rw [scanSorted, if_pos (by rw [hl]; simp [h])]
theorem scanS_end (d : Array Int) (b i k : Nat) (hk : k = i - 1) (h : ¬ i < b ∨ (!ltInt d[i]! d[k]!) = false) : scanSorted ltInt d b i = i := by
  subst hk
  rw [scanSorted, if_neg (by rcases h with h | h <;> simp [h])]
theorem shD_stop (d : Array Int) (q k : Nat) (hk : q = k + 1) (h : (!ltInt d[q]! d[k]!) = true) : shiftDown ltInt q d = d := by
  subst hk
  rw [shiftDown, if_pos h]
theorem shD_go (d : Array Int) (q k : Nat) (hk : q = k + 1) (h : (!ltInt d[q]! d[k]!) = false) : shiftDown ltInt q d = shiftDown ltInt k (swp d q k) := by
  subst hk
  rw [shiftDown, if_neg (by rw [h]; simp)]
theorem shU_stop (d : Array Int) (b q k : Nat) (hk : k = q - 1) (hb : q < b) (h : (!ltInt d[q]! d[k]!) = true) : shiftUp ltInt b q d = d := by
  subst hk
  rw [shiftUp, if_pos hb, if_pos h]
theorem shU_go (d : Array Int) (b q k : Nat) (hk : k = q - 1) (hb : q < b) (h : (!ltInt d[q]! d[k]!) = false) : shiftUp ltInt b q d = shiftUp ltInt b (q + 1) (swp d q k) := by
  subst hk
  rw [shiftUp, if_pos hb, if_neg (by rw [h]; simp)]
theorem shU_end (d : Array Int) (b q : Nat) (hb : ¬ q < b) : shiftUp ltInt b q d = d := by rw [shiftUp, if_neg hb]
theorem part_true (a b s i p : Nat) (d : Array Int) (hp : p = scanSorted ltInt d b i) (hb : p = b) : partialIns ltInt a b (s + 1) i d = (d, true) := by
  subst hp
  unfold partialIns
  simp only [hb, if_true]
theorem part_false (a b s i p : Nat) (d : Array Int) (hp : p = scanSorted ltInt d b i) (hb : p ≠ b) (h : b - a < 50) : partialIns ltInt a b (s + 1) i d = (d, false) := by
  subst hp
  unfold partialIns
  simp only [if_neg hb, if_pos h]
theorem part_step (a b s i p pm : Nat) (d d2 d3 : Array Int) (hp : p = scanSorted ltInt d b i) (hpm : pm = p - 1) (hb : p ≠ b) (h : ¬ b - a < 50) (h2 : d2 = if p - a ≥ 2 then shiftDown ltInt pm (swp d p pm) else swp d p pm)
    (h3 : d3 = if b - p ≥ 2 then shiftUp ltInt b (p + 1) d2 else d2) : partialIns ltInt a b (s + 1) i d = partialIns ltInt a b s p d3 := by
  subst h3; subst h2; subst hpm; subst hp
  conv => lhs; unfold partialIns
  simp only [if_neg hb, if_neg h]
set_option maxHeartbeats 16000000 in
set_option maxRecDepth 100000 in
theorem partial_u32 (blk off cap a b : Nat) (d0 d : Array Int) (w0 w : World) (R : Row1 (.int .u32) w0 blk off d0) (hs : d.size = d0.size) (S : SW (.int .u32) w0 blk off d w) (hab : a < b) (hb : b ≤ d0.size) (hsz : d0.size < 4611686018427387904) :
    Calls Try.prog 45 #[.slice (some ⟨blk, off, none⟩) d0.size cap, .int .i64 a, .int .i64 b] w fun e w' =>
      e = .returned (.bool (partialInsertionSort ltInt d a b).2) ∧ SW (.int .u32) w0 blk off (partialInsertionSort ltInt d a b).1 w' ∧ (partialInsertionSort ltInt d a b).1.size = d0.size := by
  have S0 : Hid (SW (.int .u32) w0 blk off d w) := S
  clear S
  obtain ⟨Rr, hR⟩ : ∃ Rr, Rr = partialIns ltInt a b 5 (a + 1) d := ⟨_, rfl⟩
  have HP : Hid (partialInsertionSort ltInt d a b = Rr) := by rw [hR]; exact rfl
  have HR0 : Hid (Rr = partialIns ltInt a b 5 (a + 1) d) := hR
  clear hR
  go_enter Try.func45, Try.ntmps45
  go_wp2
  all_goals (try (exfalso; omega))
  go_loopw [7, 8, 9, 10] (fun v7 v8 v9 v10 wr => ∃ (i s : Nat) (dk : Array Int), v7 = .int .i64 i ∧ v8 = .int .i64 s ∧ s ≤ 5 ∧ a + 1 ≤ i ∧ i ≤ b ∧ dk.size = d0.size ∧ Hid (SW (.int .u32) w0 blk off dk wr) ∧ Hid (partialIns ltInt a b (5 - s) i dk = Rr))
    (fun v7 v8 v9 v10 _ => 5 - (intOf v8).toNat)
  case atStart => exact ⟨a + 1, 0, d, by go_num, rfl, by omega, by omega, by omega, hs, S0, HR0.out.symm⟩
  case round =>
    clear S0 HR0 hs
    obtain ⟨i, s, dk, rfl, rfl, hs5, hai, hib, hds, S1, HL⟩ := hrel
    by_cases hs4 : s < 5
    · have hs4z : (s : Int) < 5 := by omega
      go_wp2
      all_goals (try (exfalso; omega))
      go_loopw [7] (fun vi wr => ∃ p : Nat, vi = .int .i64 p ∧ i ≤ p ∧ p ≤ b ∧ Hid (SW (.int .u32) w0 blk off dk wr) ∧ Hid (scanSorted ltInt dk b p = scanSorted ltInt dk b i))
        (fun vi _ => b - (intOf vi).toNat)
      case atStart => exact ⟨i, rfl, Nat.le_refl _, hib, S1, rfl⟩
      case round =>
        clear S1
        obtain ⟨p, rfl, hip, hpb, S2, HU⟩ := hrel
        obtain ⟨pm, hpm⟩ : ∃ pm, pm = p - 1 := ⟨_, rfl⟩
        have ep : (p : Int) - 1 = (pm : Int) := by omega
        have hpn : p ≠ pm := by omega
        have hpml : pm < d0.size := by omega
        have HPM : Hid (pm = p - 1) := hpm
        by_cases hlt : p < b
        · clear hpm
          obtain ⟨G, hG, hc, hf⟩ := row_facts S2.out R hds
          have hpl : p < d0.size := by omega
          go_wp2_with fail
          go_big_quiet (first | (go_at_call 46; refine Calls.quiet_of_same (less_u32 _ _ _)))
          go_wp2
          · have ht : (!ltInt (G p) (G pm)) = true := by assumption
            go_roundw
            case rel => exact ⟨p + 1, by go_num, by omega, by omega, S2.out.drewN nq, (scanS_go dk b p pm HPM.out hlt (by rw [← hG.out p, ← hG.out pm]; exact ht)).symm.trans HU.out⟩
            case measure => simp [intOf]; omega
          · have h50 : b - a < 50 := by omega
            have ht : (!ltInt (G p) (G pm)) = false := by assumption
            have HI2 : Hid (p = scanSorted ltInt dk b i) := (scanS_end dk b p pm HPM.out (.inr (by rw [← hG.out p, ← hG.out pm]; exact ht))).symm.trans HU.out
            have S5 : Hid (SW (.int .u32) w0 blk off dk (wr.drewN nq)) := S2.out.drewN nq
            clear hc hf hG ht S2 HU
            generalize wr.drewN nq = w5 at S5 ⊢
            go_wp2
            go_ret
            have e := part_false a b (4 - s) i p dk HI2.out (by omega) h50
            have h := HL.out
            rw [show 5 - s = 4 - s + 1 from by omega, e] at h
            rw [HP.out, ← h]
            exact ⟨rfl, S5.out, hds⟩
          · have h50 : ¬ b - a < 50 := by omega
            have ht : (!ltInt (G p) (G pm)) = false := by assumption
            have HI2 : Hid (p = scanSorted ltInt dk b i) := (scanS_end dk b p pm HPM.out (.inr (by rw [← hG.out p, ← hG.out pm]; exact ht))).symm.trans HU.out
            have S5 : Hid (SW (.int .u32) w0 blk off dk (wr.drewN nq)) := S2.out.drewN nq
            clear hc hf hG ht S2 HU
            generalize wr.drewN nq = w5 at S5 ⊢
            have hdq := hds
            obtain ⟨G, hG, hc, hf⟩ := row_facts S5.out R hdq
            obtain ⟨u, hu⟩ := S5.out.c2 R hdq p pm (by omega) (by omega) (.int .u32 (G pm))
            have S6 : Hid (SW (.int .u32) w0 blk off (swp dk p pm) ((w5.setCell ⟨blk, off + p, none⟩ (.int .u32 (G pm))).setCell ⟨blk, off + pm, none⟩ (.int .u32 (G p))).drew) := by
              have := S5.out.swapped R p pm (by omega) (by omega)
              rw [← hG.out p, ← hG.out pm] at this
              exact this
            clear S5
            go_wp2
            all_goals (try (exfalso; omega))
            go_region
            all_goals go_wp2
            · have ha2 : 2 ≤ p - a := by omega
              clear hc hf hG hu
              generalize ((w5.setCell ⟨blk, off + p, none⟩ (.int .u32 (G pm))).setCell ⟨blk, off + pm, none⟩ (.int .u32 (G p))).drew = w6 at S6 ⊢
              obtain ⟨d1, hd1⟩ : ∃ d1, d1 = swp dk p pm := ⟨_, rfl⟩
              have hdq1 : d1.size = d0.size := by rw [hd1, size_swp]; exact hds
              rw [← hd1] at S6
              have HD1 : Hid (d1 = swp dk p pm) := hd1
              clear hd1 hdq
              go_loopw [9] (fun vq wr => ∃ (q : Nat) (dq : Array Int), vq = .int .i64 q ∧ q ≤ pm ∧ dq.size = d0.size ∧ Hid (SW (.int .u32) w0 blk off dq wr) ∧ Hid (shiftDown ltInt q dq = shiftDown ltInt pm d1))
                (fun vq _ => (intOf vq).toNat)
              case atStart => exact ⟨pm, d1, rfl, Nat.le_refl _, hdq1, S6, rfl⟩
              case round =>
                clear S6 hdq1
                obtain ⟨q, dq, rfl, hqp, hdq, S7, HQ⟩ := hrel
                by_cases hq1 : 1 ≤ q
                · obtain ⟨qm, hqm⟩ : ∃ qm, q = qm + 1 := ⟨q - 1, by omega⟩
                  have eq1 : (q : Int) - 1 = (qm : Int) := by omega
                  have hql : q < d0.size := by omega
                  have hqml : qm < d0.size := by omega
                  have hqn : q ≠ qm := by omega
                  have hq1z : (1 : Int) ≤ (q : Int) := by omega
                  have HQM : Hid (q = qm + 1) := hqm
                  clear hqm
                  obtain ⟨G, hG, hc, hf⟩ := row_facts S7.out R hdq
                  go_wp2_with fail
                  go_big_quiet (first | (go_at_call 46; refine Calls.quiet_of_same (less_u32 _ _ _)))
                  go_wp2
                  · have ht : (!ltInt (G q) (G qm)) = true := by assumption
                    have HDQ : Hid (dq = if p - a ≥ 2 then shiftDown ltInt pm (swp dk p pm) else swp dk p pm) := by
                      show dq = _
                      rw [if_pos ha2, ← HD1.out, ← HQ.out, shD_stop dq q qm HQM.out (by rw [← hG.out q, ← hG.out qm]; exact ht)]
                    have S5 : Hid (SW (.int .u32) w0 blk off dq (wr.drewN nq)) := S7.out.drewN nq
                    clear hc hf hG ht S7 HQ
                    generalize wr.drewN nq = w7 at S5 ⊢
                    have hb2 : 2 ≤ b - p := by omega
                    obtain ⟨d2, hd2⟩ : ∃ d2, d2 = dq := ⟨_, rfl⟩
                    rw [← hd2] at S5 HDQ
                    have hdq2 : d2.size = d0.size := by rw [hd2]; exact hdq
                    have HD2 : Hid (d2 = if p - a ≥ 2 then shiftDown ltInt pm (swp dk p pm) else swp dk p pm) := HDQ
                    clear hd2 HDQ
                    go_loopw [10] (fun vr wr => ∃ (r : Nat) (dr : Array Int), vr = .int .i64 r ∧ p + 1 ≤ r ∧ r ≤ b ∧ dr.size = d0.size ∧ Hid (SW (.int .u32) w0 blk off dr wr) ∧ Hid (shiftUp ltInt b r dr = shiftUp ltInt b (p + 1) d2))
                      (fun vr _ => b - (intOf vr).toNat)
                    case atStart => exact ⟨p + 1, d2, by go_num, Nat.le_refl _, by omega, hdq2, S5, rfl⟩
                    case round =>
                      clear S5 hdq2
                      obtain ⟨r, dr, rfl, hpr, hrb, hdr, S7, HR⟩ := hrel
                      by_cases hrlt : r < b
                      · obtain ⟨G, hG, hc, hf⟩ := row_facts S7.out R hdr
                        obtain ⟨rm, hrm⟩ : ∃ rm, rm = r - 1 := ⟨_, rfl⟩
                        have er : (r : Int) - 1 = (rm : Int) := by omega
                        have hrl : r < d0.size := by omega
                        have hrml : rm < d0.size := by omega
                        have hrn : r ≠ rm := by omega
                        have HRM : Hid (rm = r - 1) := hrm
                        clear hrm
                        go_wp2_with fail
                        go_big_quiet (first | (go_at_call 46; refine Calls.quiet_of_same (less_u32 _ _ _)))
                        go_wp2
                        · have ht : (!ltInt (G r) (G rm)) = true := by assumption
                          have S5 : Hid (SW (.int .u32) w0 blk off dr (wr.drewN nq)) := S7.out.drewN nq
                          have hdz := hdr
                          have HZ : Hid (dr = if b - p ≥ 2 then shiftUp ltInt b (p + 1) d2 else d2) := by
                            show dr = _
                            rw [if_pos hb2, ← HR.out, shU_stop dr b r rm HRM.out hrlt (by rw [← hG.out r, ← hG.out rm]; exact ht)]
                          have HD3 : Hid (dr = if b - p ≥ 2 then shiftUp ltInt b (p + 1) d2 else d2) := HZ
                          go_roundw
                          case rel =>
                            refine ⟨p, s + 1, dr, rfl, by go_num, by omega, by omega, by omega, hdz, S5, ?_⟩
                            have e := part_step a b (4 - s) i p pm dk d2 dr HI2.out HPM.out (by omega) h50 HD2.out HD3.out
                            have h := HL.out
                            rw [show 5 - s = 4 - s + 1 from by omega, e] at h
                            show _ = _
                            rw [← h, show 5 - (s + 1) = 4 - s from by omega]
                          case measure => simp [intOf]; omega
                        · have ht : (!ltInt (G r) (G rm)) = false := by assumption
                          have HT : Hid (shiftUp ltInt b r dr = shiftUp ltInt b (r + 1) (swp dr r rm)) := shU_go dr b r rm HRM.out hrlt (by rw [← hG.out r, ← hG.out rm]; exact ht)
                          have S5 : Hid (SW (.int .u32) w0 blk off dr (wr.drewN nq)) := S7.out.drewN nq
                          clear hc hf hG ht S7
                          generalize wr.drewN nq = w7 at S5 ⊢
                          have hdq := hdr
                          obtain ⟨G, hG, hc, hf⟩ := row_facts S5.out R hdq
                          obtain ⟨u, hu⟩ := S5.out.c2 R hdq r rm (by omega) (by omega) (.int .u32 (G rm))
                          have S8 : Hid (SW (.int .u32) w0 blk off (swp dr r rm) ((w7.setCell ⟨blk, off + r, none⟩ (.int .u32 (G rm))).setCell ⟨blk, off + rm, none⟩ (.int .u32 (G r))).drew) := by
                            have := S5.out.swapped R r rm (by omega) (by omega)
                            rw [← hG.out r, ← hG.out rm] at this
                            exact this
                          clear S5
                          go_wp2
                          all_goals (try (exfalso; omega))
                          go_region
                          all_goals go_wp2
                          go_roundw
                          case rel => exact ⟨r + 1, swp dr r rm, by go_num, by omega, by omega, by rw [size_swp]; exact hdr, S8, HT.out.symm.trans HR.out⟩
                          case measure => simp [intOf]; omega
                      · have HZ : Hid (dr = if b - p ≥ 2 then shiftUp ltInt b (p + 1) d2 else d2) := by
                          show dr = _
                          rw [if_pos hb2, ← HR.out, shU_end dr b r hrlt]
                        have S5 := S7
                        have hdz := hdr
                        go_wp2
                        all_goals (try (exfalso; omega))
                        have HD3 : Hid (dr = if b - p ≥ 2 then shiftUp ltInt b (p + 1) d2 else d2) := HZ
                        go_roundw
                        case rel =>
                          refine ⟨p, s + 1, dr, rfl, by go_num, by omega, by omega, by omega, hdz, S5, ?_⟩
                          have e := part_step a b (4 - s) i p pm dk d2 dr HI2.out HPM.out (by omega) h50 HD2.out HD3.out
                          have h := HL.out
                          rw [show 5 - s = 4 - s + 1 from by omega, e] at h
                          show _ = _
                          rw [← h, show 5 - (s + 1) = 4 - s from by omega]
                        case measure => simp [intOf]; omega
                  · have ht : (!ltInt (G q) (G qm)) = true := by assumption
                    have HDQ : Hid (dq = if p - a ≥ 2 then shiftDown ltInt pm (swp dk p pm) else swp dk p pm) := by
                      show dq = _
                      rw [if_pos ha2, ← HD1.out, ← HQ.out, shD_stop dq q qm HQM.out (by rw [← hG.out q, ← hG.out qm]; exact ht)]
                    have S5 : Hid (SW (.int .u32) w0 blk off dq (wr.drewN nq)) := S7.out.drewN nq
                    clear hc hf hG ht S7 HQ
                    generalize wr.drewN nq = w7 at S5 ⊢
                    have hb2 : ¬ 2 ≤ b - p := by omega
                    obtain ⟨d2, hd2⟩ : ∃ d2, d2 = dq := ⟨_, rfl⟩
                    rw [← hd2] at S5 HDQ
                    have hdq2 : d2.size = d0.size := by rw [hd2]; exact hdq
                    have HD2 : Hid (d2 = if p - a ≥ 2 then shiftDown ltInt pm (swp dk p pm) else swp dk p pm) := HDQ
                    clear hd2 HDQ
                    have HZ : Hid (d2 = if b - p ≥ 2 then shiftUp ltInt b (p + 1) d2 else d2) := by
                      show d2 = _
                      rw [if_neg (by omega)]
                    have hdz := hdq2
                    have HD3 : Hid (d2 = if b - p ≥ 2 then shiftUp ltInt b (p + 1) d2 else d2) := HZ
                    go_roundw
                    case rel =>
                      refine ⟨p, s + 1, d2, rfl, by go_num, by omega, by omega, by omega, hdz, S5, ?_⟩
                      have e := part_step a b (4 - s) i p pm dk d2 d2 HI2.out HPM.out (by omega) h50 HD2.out HD3.out
                      have h := HL.out
                      rw [show 5 - s = 4 - s + 1 from by omega, e] at h
                      show _ = _
                      rw [← h, show 5 - (s + 1) = 4 - s from by omega]
                    case measure => simp [intOf]; omega
                  · have ht : (!ltInt (G q) (G qm)) = false := by assumption
                    have HT : Hid (shiftDown ltInt q dq = shiftDown ltInt qm (swp dq q qm)) := shD_go dq q qm HQM.out (by rw [← hG.out q, ← hG.out qm]; exact ht)
                    have S5 : Hid (SW (.int .u32) w0 blk off dq (wr.drewN nq)) := S7.out.drewN nq
                    clear hc hf hG ht S7
                    generalize wr.drewN nq = w7 at S5 ⊢
                    obtain ⟨G, hG, hc, hf⟩ := row_facts S5.out R hdq
                    obtain ⟨u, hu⟩ := S5.out.c2 R hdq q qm (by omega) (by omega) (.int .u32 (G qm))
                    have S8 : Hid (SW (.int .u32) w0 blk off (swp dq q qm) ((w7.setCell ⟨blk, off + q, none⟩ (.int .u32 (G qm))).setCell ⟨blk, off + qm, none⟩ (.int .u32 (G q))).drew) := by
                      have := S5.out.swapped R q qm (by omega) (by omega)
                      rw [← hG.out q, ← hG.out qm] at this
                      exact this
                    clear S5
                    go_wp2
                    all_goals (try (exfalso; omega))
                    go_region
                    all_goals go_wp2
                    go_roundw
                    case rel => exact ⟨qm, swp dq q qm, rfl, by omega, by rw [size_swp]; exact hdq, S8, HT.out.symm.trans HQ.out⟩
                    case measure => simp [intOf]; have := HQM.out; omega
                · have HDQ : Hid (dq = if p - a ≥ 2 then shiftDown ltInt pm (swp dk p pm) else swp dk p pm) := by
                    show dq = _
                    rw [if_pos ha2, ← HD1.out, ← HQ.out, show q = 0 from by omega]
                    exact rfl
                  have S5 := S7
                  clear S7 HQ
                  go_wp2
                  all_goals (try (exfalso; omega))
                  · have hb2 : 2 ≤ b - p := by omega
                    obtain ⟨d2, hd2⟩ : ∃ d2, d2 = dq := ⟨_, rfl⟩
                    rw [← hd2] at S5 HDQ
                    have hdq2 : d2.size = d0.size := by rw [hd2]; exact hdq
                    have HD2 : Hid (d2 = if p - a ≥ 2 then shiftDown ltInt pm (swp dk p pm) else swp dk p pm) := HDQ
                    clear hd2 HDQ
                    go_loopw [10] (fun vr wr => ∃ (r : Nat) (dr : Array Int), vr = .int .i64 r ∧ p + 1 ≤ r ∧ r ≤ b ∧ dr.size = d0.size ∧ Hid (SW (.int .u32) w0 blk off dr wr) ∧ Hid (shiftUp ltInt b r dr = shiftUp ltInt b (p + 1) d2))
                      (fun vr _ => b - (intOf vr).toNat)
                    case atStart => exact ⟨p + 1, d2, by go_num, Nat.le_refl _, by omega, hdq2, S5, rfl⟩
                    case round =>
                      clear S5 hdq2
                      obtain ⟨r, dr, rfl, hpr, hrb, hdr, S7, HR⟩ := hrel
                      by_cases hrlt : r < b
                      · obtain ⟨G, hG, hc, hf⟩ := row_facts S7.out R hdr
                        obtain ⟨rm, hrm⟩ : ∃ rm, rm = r - 1 := ⟨_, rfl⟩
                        have er : (r : Int) - 1 = (rm : Int) := by omega
                        have hrl : r < d0.size := by omega
                        have hrml : rm < d0.size := by omega
                        have hrn : r ≠ rm := by omega
                        have HRM : Hid (rm = r - 1) := hrm
                        clear hrm
                        go_wp2_with fail
                        go_big_quiet (first | (go_at_call 46; refine Calls.quiet_of_same (less_u32 _ _ _)))
                        go_wp2
                        · have ht : (!ltInt (G r) (G rm)) = true := by assumption
                          have S5 : Hid (SW (.int .u32) w0 blk off dr (wr.drewN nq)) := S7.out.drewN nq
                          have hdz := hdr
                          have HZ : Hid (dr = if b - p ≥ 2 then shiftUp ltInt b (p + 1) d2 else d2) := by
                            show dr = _
                            rw [if_pos hb2, ← HR.out, shU_stop dr b r rm HRM.out hrlt (by rw [← hG.out r, ← hG.out rm]; exact ht)]
                          have HD3 : Hid (dr = if b - p ≥ 2 then shiftUp ltInt b (p + 1) d2 else d2) := HZ
                          go_roundw
                          case rel =>
                            refine ⟨p, s + 1, dr, rfl, by go_num, by omega, by omega, by omega, hdz, S5, ?_⟩
                            have e := part_step a b (4 - s) i p pm dk d2 dr HI2.out HPM.out (by omega) h50 HD2.out HD3.out
                            have h := HL.out
                            rw [show 5 - s = 4 - s + 1 from by omega, e] at h
                            show _ = _
                            rw [← h, show 5 - (s + 1) = 4 - s from by omega]
                          case measure => simp [intOf]; omega
                        · have ht : (!ltInt (G r) (G rm)) = false := by assumption
                          have HT : Hid (shiftUp ltInt b r dr = shiftUp ltInt b (r + 1) (swp dr r rm)) := shU_go dr b r rm HRM.out hrlt (by rw [← hG.out r, ← hG.out rm]; exact ht)
                          have S5 : Hid (SW (.int .u32) w0 blk off dr (wr.drewN nq)) := S7.out.drewN nq
                          clear hc hf hG ht S7
                          generalize wr.drewN nq = w7 at S5 ⊢
                          have hdq := hdr
                          obtain ⟨G, hG, hc, hf⟩ := row_facts S5.out R hdq
                          obtain ⟨u, hu⟩ := S5.out.c2 R hdq r rm (by omega) (by omega) (.int .u32 (G rm))
                          have S8 : Hid (SW (.int .u32) w0 blk off (swp dr r rm) ((w7.setCell ⟨blk, off + r, none⟩ (.int .u32 (G rm))).setCell ⟨blk, off + rm, none⟩ (.int .u32 (G r))).drew) := by
                            have := S5.out.swapped R r rm (by omega) (by omega)
                            rw [← hG.out r, ← hG.out rm] at this
                            exact this
                          clear S5
                          go_wp2
                          all_goals (try (exfalso; omega))
                          go_region
                          all_goals go_wp2
                          go_roundw
                          case rel => exact ⟨r + 1, swp dr r rm, by go_num, by omega, by omega, by rw [size_swp]; exact hdr, S8, HT.out.symm.trans HR.out⟩
                          case measure => simp [intOf]; omega
                      · have HZ : Hid (dr = if b - p ≥ 2 then shiftUp ltInt b (p + 1) d2 else d2) := by
                          show dr = _
                          rw [if_pos hb2, ← HR.out, shU_end dr b r hrlt]
                        have S5 := S7
                        have hdz := hdr
                        go_wp2
                        all_goals (try (exfalso; omega))
                        have HD3 : Hid (dr = if b - p ≥ 2 then shiftUp ltInt b (p + 1) d2 else d2) := HZ
                        go_roundw
                        case rel =>
                          refine ⟨p, s + 1, dr, rfl, by go_num, by omega, by omega, by omega, hdz, S5, ?_⟩
                          have e := part_step a b (4 - s) i p pm dk d2 dr HI2.out HPM.out (by omega) h50 HD2.out HD3.out
                          have h := HL.out
                          rw [show 5 - s = 4 - s + 1 from by omega, e] at h
                          show _ = _
                          rw [← h, show 5 - (s + 1) = 4 - s from by omega]
                        case measure => simp [intOf]; omega
                  · have hb2 : ¬ 2 ≤ b - p := by omega
                    obtain ⟨d2, hd2⟩ : ∃ d2, d2 = dq := ⟨_, rfl⟩
                    rw [← hd2] at S5 HDQ
                    have hdq2 : d2.size = d0.size := by rw [hd2]; exact hdq
                    have HD2 : Hid (d2 = if p - a ≥ 2 then shiftDown ltInt pm (swp dk p pm) else swp dk p pm) := HDQ
                    clear hd2 HDQ
                    have HZ : Hid (d2 = if b - p ≥ 2 then shiftUp ltInt b (p + 1) d2 else d2) := by
                      show d2 = _
                      rw [if_neg (by omega)]
                    have hdz := hdq2
                    have HD3 : Hid (d2 = if b - p ≥ 2 then shiftUp ltInt b (p + 1) d2 else d2) := HZ
                    go_roundw
                    case rel =>
                      refine ⟨p, s + 1, d2, rfl, by go_num, by omega, by omega, by omega, hdz, S5, ?_⟩
                      have e := part_step a b (4 - s) i p pm dk d2 d2 HI2.out HPM.out (by omega) h50 HD2.out HD3.out
                      have h := HL.out
                      rw [show 5 - s = 4 - s + 1 from by omega, e] at h
                      show _ = _
                      rw [← h, show 5 - (s + 1) = 4 - s from by omega]
                    case measure => simp [intOf]; omega
            · clear hc hf hG hu
              generalize ((w5.setCell ⟨blk, off + p, none⟩ (.int .u32 (G pm))).setCell ⟨blk, off + pm, none⟩ (.int .u32 (G p))).drew = w6 at S6 ⊢
              obtain ⟨d1, hd1⟩ : ∃ d1, d1 = swp dk p pm := ⟨_, rfl⟩
              have hdq1 : d1.size = d0.size := by rw [hd1, size_swp]; exact hds
              rw [← hd1] at S6
              have HD1 : Hid (d1 = swp dk p pm) := hd1
              clear hd1 hdq
              have ha2 : ¬ 2 ≤ p - a := by omega
              have HDQ : Hid (d1 = if p - a ≥ 2 then shiftDown ltInt pm (swp dk p pm) else swp dk p pm) := by
                show d1 = _
                rw [if_neg (by omega)]
                exact HD1.out
              have S5 := S6
              have hdq := hdq1
              clear S6 hdq1
              have hb2 : 2 ≤ b - p := by omega
              obtain ⟨d2, hd2⟩ : ∃ d2, d2 = d1 := ⟨_, rfl⟩
              rw [← hd2] at S5 HDQ
              have hdq2 : d2.size = d0.size := by rw [hd2]; exact hdq
              have HD2 : Hid (d2 = if p - a ≥ 2 then shiftDown ltInt pm (swp dk p pm) else swp dk p pm) := HDQ
              clear hd2 HDQ
              go_loopw [10] (fun vr wr => ∃ (r : Nat) (dr : Array Int), vr = .int .i64 r ∧ p + 1 ≤ r ∧ r ≤ b ∧ dr.size = d0.size ∧ Hid (SW (.int .u32) w0 blk off dr wr) ∧ Hid (shiftUp ltInt b r dr = shiftUp ltInt b (p + 1) d2))
                (fun vr _ => b - (intOf vr).toNat)
              case atStart => exact ⟨p + 1, d2, by go_num, Nat.le_refl _, by omega, hdq2, S5, rfl⟩
              case round =>
                clear S5 hdq2
                obtain ⟨r, dr, rfl, hpr, hrb, hdr, S7, HR⟩ := hrel
                by_cases hrlt : r < b
                · obtain ⟨G, hG, hc, hf⟩ := row_facts S7.out R hdr
                  obtain ⟨rm, hrm⟩ : ∃ rm, rm = r - 1 := ⟨_, rfl⟩
                  have er : (r : Int) - 1 = (rm : Int) := by omega
                  have hrl : r < d0.size := by omega
                  have hrml : rm < d0.size := by omega
                  have hrn : r ≠ rm := by omega
                  have HRM : Hid (rm = r - 1) := hrm
                  clear hrm
                  go_wp2_with fail
                  go_big_quiet (first | (go_at_call 46; refine Calls.quiet_of_same (less_u32 _ _ _)))
                  go_wp2
                  · have ht : (!ltInt (G r) (G rm)) = true := by assumption
                    have S5 : Hid (SW (.int .u32) w0 blk off dr (wr.drewN nq)) := S7.out.drewN nq
                    have hdz := hdr
                    have HZ : Hid (dr = if b - p ≥ 2 then shiftUp ltInt b (p + 1) d2 else d2) := by
                      show dr = _
                      rw [if_pos hb2, ← HR.out, shU_stop dr b r rm HRM.out hrlt (by rw [← hG.out r, ← hG.out rm]; exact ht)]
                    have HD3 : Hid (dr = if b - p ≥ 2 then shiftUp ltInt b (p + 1) d2 else d2) := HZ
                    go_roundw
                    case rel =>
                      refine ⟨p, s + 1, dr, rfl, by go_num, by omega, by omega, by omega, hdz, S5, ?_⟩
                      have e := part_step a b (4 - s) i p pm dk d2 dr HI2.out HPM.out (by omega) h50 HD2.out HD3.out
                      have h := HL.out
                      rw [show 5 - s = 4 - s + 1 from by omega, e] at h
                      show _ = _
                      rw [← h, show 5 - (s + 1) = 4 - s from by omega]
                    case measure => simp [intOf]; omega
                  · have ht : (!ltInt (G r) (G rm)) = false := by assumption
                    have HT : Hid (shiftUp ltInt b r dr = shiftUp ltInt b (r + 1) (swp dr r rm)) := shU_go dr b r rm HRM.out hrlt (by rw [← hG.out r, ← hG.out rm]; exact ht)
                    have S5 : Hid (SW (.int .u32) w0 blk off dr (wr.drewN nq)) := S7.out.drewN nq
                    clear hc hf hG ht S7
                    generalize wr.drewN nq = w7 at S5 ⊢
                    have hdq := hdr
                    obtain ⟨G, hG, hc, hf⟩ := row_facts S5.out R hdq
                    obtain ⟨u, hu⟩ := S5.out.c2 R hdq r rm (by omega) (by omega) (.int .u32 (G rm))
                    have S8 : Hid (SW (.int .u32) w0 blk off (swp dr r rm) ((w7.setCell ⟨blk, off + r, none⟩ (.int .u32 (G rm))).setCell ⟨blk, off + rm, none⟩ (.int .u32 (G r))).drew) := by
                      have := S5.out.swapped R r rm (by omega) (by omega)
                      rw [← hG.out r, ← hG.out rm] at this
                      exact this
                    clear S5
                    go_wp2
                    all_goals (try (exfalso; omega))
                    go_region
                    all_goals go_wp2
                    go_roundw
                    case rel => exact ⟨r + 1, swp dr r rm, by go_num, by omega, by omega, by rw [size_swp]; exact hdr, S8, HT.out.symm.trans HR.out⟩
                    case measure => simp [intOf]; omega
                · have HZ : Hid (dr = if b - p ≥ 2 then shiftUp ltInt b (p + 1) d2 else d2) := by
                    show dr = _
                    rw [if_pos hb2, ← HR.out, shU_end dr b r hrlt]
                  have S5 := S7
                  have hdz := hdr
                  go_wp2
                  all_goals (try (exfalso; omega))
                  have HD3 : Hid (dr = if b - p ≥ 2 then shiftUp ltInt b (p + 1) d2 else d2) := HZ
                  go_roundw
                  case rel =>
                    refine ⟨p, s + 1, dr, rfl, by go_num, by omega, by omega, by omega, hdz, S5, ?_⟩
                    have e := part_step a b (4 - s) i p pm dk d2 dr HI2.out HPM.out (by omega) h50 HD2.out HD3.out
                    have h := HL.out
                    rw [show 5 - s = 4 - s + 1 from by omega, e] at h
                    show _ = _
                    rw [← h, show 5 - (s + 1) = 4 - s from by omega]
                  case measure => simp [intOf]; omega
        · have HI2 : Hid (p = scanSorted ltInt dk b i) := (scanS_end dk b p pm hpm (.inl hlt)).symm.trans HU.out
          have hpe : p = b := by omega
          clear hpm
          go_wp2_with fail
          go_big_quiet (fail)
          have S5 : Hid (SW (.int .u32) w0 blk off dk (wr.drewN nq)) := S2.out.drewN nq
          clear S2 HU
          generalize wr.drewN nq = w5 at S5 ⊢
          have hpez : (p : Int) = (b : Int) := by omega
          go_wp2
          all_goals (try (exfalso; omega))
          go_ret
          have e := part_true a b (4 - s) i p dk HI2.out hpe
          have h := HL.out
          rw [show 5 - s = 4 - s + 1 from by omega, e] at h
          rw [HP.out, ← h]
          exact ⟨rfl, S5.out, hds⟩
    · have hs4z : decide ((s : Int) < 5) = false := decide_eq_false (by omega)
      go_wp2
      all_goals (try (exfalso; omega))
      go_ret
      have h := HL.out
      rw [show 5 - s = 0 from by omega] at h
      rw [HP.out, ← h]
      exact ⟨rfl, S1.out, hds⟩
end Go.Proofs.Ytconaifcjnpabaa.P

namespace Go.Proofs.Ytconaifcjnpabaa.P
open Go.RowKit Go.Sort Go.Shelf Go.Lib
set_option linter.unusedVariables false
set_option linter.unusedSimpArgs false
theorem cnt_drewN {w0 W : World} {blk off c s : Nat} {dk : Array Int} (h : Cnt1 (.int .u32) w0 blk off dk c s W) (n : Nat) : Cnt1 (.int .u32) w0 blk off dk c s (W.drewN n) := by
  have := h.grown n #[]
  rwa [grow_empty] at this
theorem cnt_ne {w0 W : World} {blk off c s : Nat} {d0 dk : Array Int} (h : Cnt1 (.int .u32) w0 blk off dk c s W) (R : Row1 (.int .u32) w0 blk off d0) : blk ≠ c := by
  have h1 := R.hblk
  have h2 := h.2.2.2.1
  omega
set_option maxHeartbeats 4000000 in
set_option maxRecDepth 100000 in
theorem order2_u32 (blk off cap a b c s p q t : Nat) (d0 dk : Array Int) (w0 w : World) (R : Row1 (.int .u32) w0 blk off d0) (hs : dk.size = d0.size) (C : Cnt1 (.int .u32) w0 blk off dk c s w) (ha : a < d0.size) (hb : b < d0.size) (hs9 : s < 1000) (hsz : d0.size < 4611686018427387904)
    (hr : order2 ltInt dk a b s = (p, q, t)) :
    Calls Try.prog 67 #[.slice (some ⟨blk, off, none⟩) d0.size cap, .int .i64 a, .int .i64 b, .pointer (some ⟨c, 0, none⟩)] w fun e w' => e = .returned (.tuple #[.int .i64 p, .int .i64 q]) ∧ Cnt1 (.int .u32) w0 blk off dk c t w' := by
  obtain ⟨G, hG, hc, hf⟩ := row_facts C.1 R hs
  have hcc := C.2.1
  have hcf := C.2.2.1
  have C0 : Hid (Cnt1 (.int .u32) w0 blk off dk c s w) := C
  have HR : Hid (order2 ltInt dk a b s = (p, q, t)) := hr
  clear C hr
  go_enter Try.func67, Try.ntmps67
  go_wp2_with fail
  go_big_quiet (first | (go_at_call 46; refine Calls.quiet_of_same (less_u32 _ _ _)))
  go_wp2
  · have ht : ltInt (G b) (G a) = true := by assumption
    have e := HR.out
    unfold order2 at e
    rw [← hG.out b, ← hG.out a, if_pos ht] at e
    obtain ⟨rfl, e2⟩ := Prod.mk.inj e
    obtain ⟨rfl, rfl⟩ := Prod.mk.inj e2
    go_ret2
    refine ⟨rfl, ?_⟩
    have := (cnt_drewN C0.out nq).bump (s + 1)
    simpa using this
  · have ht : ltInt (G b) (G a) = false := by assumption
    have e := HR.out
    unfold order2 at e
    rw [← hG.out b, ← hG.out a, if_neg (by rw [ht]; simp)] at e
    obtain ⟨rfl, e2⟩ := Prod.mk.inj e
    obtain ⟨rfl, rfl⟩ := Prod.mk.inj e2
    go_ret2
    exact ⟨rfl, cnt_drewN C0.out nq⟩
theorem order2_in (dk : Array Int) (a b s p q t : Nat) (hr : order2 ltInt dk a b s = (p, q, t)) : ((p = a ∧ q = b) ∨ (p = b ∧ q = a)) ∧ t ≤ s + 1 := by
  have h1 := order2_mem ltInt dk a b s
  have h2 := order2_count (lt := ltInt) dk a b s
  rw [hr] at h1 h2
  exact ⟨h1, h2⟩
set_option maxHeartbeats 4000000 in
set_option maxRecDepth 100000 in
theorem median_u32 (blk off cap a b e0 c s m t : Nat) (d0 dk : Array Int) (w0 w : World) (R : Row1 (.int .u32) w0 blk off d0) (hs : dk.size = d0.size) (C : Cnt1 (.int .u32) w0 blk off dk c s w) (ha : a < d0.size) (hb : b < d0.size) (he : e0 < d0.size) (hs9 : s < 900) (hsz : d0.size < 4611686018427387904)
    (hr : median ltInt dk a b e0 s = (m, t)) :
    Calls Try.prog 63 #[.slice (some ⟨blk, off, none⟩) d0.size cap, .int .i64 a, .int .i64 b, .int .i64 e0, .pointer (some ⟨c, 0, none⟩)] w fun e w' => e = .returned (.int .i64 m) ∧ Cnt1 (.int .u32) w0 blk off dk c t w' := by
  obtain ⟨⟨p1, q1, s1⟩, h1⟩ : ∃ r, order2 ltInt dk a b s = r := ⟨_, rfl⟩
  obtain ⟨⟨p2, q2, s2⟩, h2⟩ : ∃ r, order2 ltInt dk q1 e0 s1 = r := ⟨_, rfl⟩
  obtain ⟨⟨p3, q3, s3⟩, h3⟩ : ∃ r, order2 ltInt dk p1 p2 s2 = r := ⟨_, rfl⟩
  have hm : m = q3 ∧ t = s3 := by
    unfold median at hr
    rw [h1] at hr
    simp only [] at hr
    rw [h2] at hr
    simp only [] at hr
    rw [h3] at hr
    exact ⟨(Prod.mk.inj hr).1.symm, (Prod.mk.inj hr).2.symm⟩
  obtain ⟨rfl, rfl⟩ := hm
  clear hr
  obtain ⟨i1, c1⟩ := order2_in dk a b s p1 q1 s1 h1
  obtain ⟨i2, c2⟩ := order2_in dk q1 e0 s1 p2 q2 s2 h2
  have hp1 : p1 < d0.size := by omega
  have hq1 : q1 < d0.size := by omega
  have hp2 : p2 < d0.size := by omega
  have HK1 := Hid.mk' (order2_u32 blk off cap a b c s p1 q1 s1 d0 dk w0 w R hs C ha hb (by omega) hsz h1)
  have HK2 := Hid.mk' (fun w1 C1 => order2_u32 blk off cap q1 e0 c s1 p2 q2 s2 d0 dk w0 w1 R hs C1 hq1 he (by omega) hsz h2)
  have HK3 := Hid.mk' (fun w1 C1 => order2_u32 blk off cap p1 p2 c s2 p3 m t d0 dk w0 w1 R hs C1 hp1 hp2 (by omega) hsz h3)
  clear C i1 i2
  go_enter Try.func63, Try.ntmps63
  go_wp2_with fail
  refine HK1.out.mono ?_
  rintro e w1 ⟨rfl, g1⟩
  have C1 := Hid.mk' g1
  clear g1
  go_wp2_with fail
  refine (HK2.out _ C1.out).mono ?_
  rintro e w2 ⟨rfl, g1⟩
  have C2 := Hid.mk' g1
  clear g1
  go_wp2_with fail
  refine (HK3.out _ C2.out).mono ?_
  rintro e w3 ⟨rfl, g1⟩
  have C3 := Hid.mk' g1
  clear g1
  go_wp2
  go_ret
  exact ⟨rfl, C3.out⟩
set_option maxHeartbeats 4000000 in
set_option maxRecDepth 100000 in
theorem medAdj_u32 (blk off cap a c s m t : Nat) (d0 dk : Array Int) (w0 w : World) (R : Row1 (.int .u32) w0 blk off d0) (hs : dk.size = d0.size) (C : Cnt1 (.int .u32) w0 blk off dk c s w) (ha : 1 ≤ a) (hb : a + 1 < d0.size) (hs9 : s < 900) (hsz : d0.size < 4611686018427387904)
    (hr : medianAdjacent ltInt dk a s = (m, t)) :
    Calls Try.prog 62 #[.slice (some ⟨blk, off, none⟩) d0.size cap, .int .i64 a, .pointer (some ⟨c, 0, none⟩)] w fun e w' => e = .returned (.int .i64 m) ∧ Cnt1 (.int .u32) w0 blk off dk c t w' := by
  obtain ⟨am, ham⟩ : ∃ am, am = a - 1 := ⟨_, rfl⟩
  obtain ⟨ap, hap⟩ : ∃ ap, ap = a + 1 := ⟨_, rfl⟩
  have e1 : (a : Int) - 1 = (am : Int) := by omega
  have e2 : (a : Int) + 1 = (ap : Int) := by omega
  have HK := Hid.mk' (median_u32 blk off cap am a ap c s m t d0 dk w0 w R hs C (by omega) (by omega) (by omega) hs9 hsz (by rw [ham, hap]; exact hr))
  clear C hr ham hap
  go_enter Try.func62, Try.ntmps62
  go_wp2_with fail
  refine HK.out.mono ?_
  rintro e w1 ⟨rfl, g1⟩
  have C1 := Hid.mk' g1
  clear g1
  go_wp2
  go_ret
  exact ⟨rfl, C1.out⟩
end Go.Proofs.Ytconaifcjnpabaa.P

namespace Go.Proofs.Ytconaifcjnpabaa.P
open Go.RowKit Go.Sort Go.Shelf Go.Lib
set_option linter.unusedVariables false
set_option linter.unusedSimpArgs false
def hintT (t : Nat) : Hint := if t = 0 then .increasing else if t = 12 then .decreasing else .unknown
def hintZ : Hint → Int
  | .unknown => 0
  | .increasing => 1
  | .decreasing => 2
theorem piv_big (d : Array Int) (a b q i' s1 j' s2 k' s3 m t : Nat) (hq : q = (b - a) / 4) (h : 50 ≤ b - a) (h1 : medianAdjacent ltInt d (a + q * 1) 0 = (i', s1)) (h2 : medianAdjacent ltInt d (a + q * 2) s1 = (j', s2)) (h3 : medianAdjacent ltInt d (a + q * 3) s2 = (k', s3)) (h4 : median ltInt d i' j' k' s3 = (m, t)) :
    choosePivot ltInt d a b = (m, hintT t) := by
  subst hq
  unfold choosePivot
  simp only []
  rw [if_pos (by omega), if_pos (by omega), h1]
  simp only []
  rw [h2]
  simp only []
  rw [h3]
  simp only []
  rw [h4]
  rfl
theorem piv_small (d : Array Int) (a b q m t : Nat) (hq : q = (b - a) / 4) (h8 : 8 ≤ b - a) (h : ¬ 50 ≤ b - a) (h4 : median ltInt d (a + q * 1) (a + q * 2) (a + q * 3) 0 = (m, t)) :
    choosePivot ltInt d a b = (m, hintT t) := by
  subst hq
  unfold choosePivot
  simp only []
  rw [if_pos (by omega), if_neg (by omega), h4]
  rfl
theorem adj_in (d : Array Int) (a s m t : Nat) (h : medianAdjacent ltInt d a s = (m, t)) : (m = a - 1 ∨ m = a ∨ m = a + 1) ∧ t ≤ s + 3 := by
  have h1 := medianAdjacent_mem ltInt d a s
  have h2 := medianAdjacent_count (lt := ltInt) d a s
  rw [h] at h1 h2
  exact ⟨h1, h2⟩
set_option maxHeartbeats 8000000 in
set_option maxRecDepth 100000 in
theorem pivot_u32 (blk off cap a b : Nat) (d0 dk : Array Int) (w0 w : World) (R : Row1 (.int .u32) w0 blk off d0) (hs : dk.size = d0.size) (S : SW (.int .u32) w0 blk off dk w) (h8 : 8 ≤ b - a) (hb : b ≤ d0.size) (hsz : d0.size < 4611686018427387904) :
    Calls Try.prog 43 #[.slice (some ⟨blk, off, none⟩) d0.size cap, .int .i64 a, .int .i64 b] w fun e w' => e = .returned (.tuple #[.int .i64 (choosePivot ltInt dk a b).1, .int .i64 (hintZ (choosePivot ltInt dk a b).2)]) ∧ SW (.int .u32) w0 blk off dk w' := by
  obtain ⟨l, hl⟩ : ∃ l, l = b - a := ⟨_, rfl⟩
  obtain ⟨q, hq⟩ : ∃ q, q = l / 4 := ⟨_, rfl⟩
  have el : (b : Int) - (a : Int) = (l : Int) := by omega
  have eq4 : (l : Int).tdiv 4 = (q : Int) := by rw [Int.tdiv_eq_ediv_of_nonneg (by omega)]; omega
  obtain ⟨i, hi⟩ : ∃ i, i = a + q * 1 := ⟨_, rfl⟩
  obtain ⟨j, hj⟩ : ∃ j, j = a + q * 2 := ⟨_, rfl⟩
  obtain ⟨k, hk⟩ : ∃ k, k = a + q * 3 := ⟨_, rfl⟩
  have ei : (a : Int) + (q : Int) = (i : Int) := by omega
  have ej : (a : Int) + (q : Int) * 2 = (j : Int) := by omega
  have ek : (a : Int) + (q : Int) * 3 = (k : Int) := by omega
  have hq2 : 2 ≤ q := by omega
  have hkb : k + 1 < b := by omega
  have hij : i < j ∧ j < k ∧ 1 ≤ i ∧ 1 ≤ j ∧ 1 ≤ k := by omega
  have hl8 : (8 : Int) ≤ (l : Int) := by omega
  have C0 := Hid.mk' (Cnt1.start S 3)
  have HQ : Hid (q = (b - a) / 4 ∧ l = b - a ∧ i = a + q * 1 ∧ j = a + q * 2 ∧ k = a + q * 3) := ⟨by rw [hq, hl], hl, hi, hj, hk⟩
  have hql : q ≤ l := by omega
  have hll : l < 4611686018427387904 := by omega
  clear hl hq hi hj hk
  obtain ⟨h1, h2, h3, h4, h5⟩ := hij
  obtain ⟨c, hc⟩ : ∃ c, c = w.heap.size := ⟨_, rfl⟩
  by_cases h50 : 50 ≤ b - a
  · obtain ⟨⟨i', s1⟩, r1⟩ : ∃ r, medianAdjacent ltInt dk i 0 = r := ⟨_, rfl⟩
    obtain ⟨⟨j', s2⟩, r2⟩ : ∃ r, medianAdjacent ltInt dk j s1 = r := ⟨_, rfl⟩
    obtain ⟨⟨k', s3⟩, r3⟩ : ∃ r, medianAdjacent ltInt dk k s2 = r := ⟨_, rfl⟩
    obtain ⟨⟨m, t⟩, r4⟩ : ∃ r, median ltInt dk i' j' k' s3 = r := ⟨_, rfl⟩
    obtain ⟨n1, c1⟩ := adj_in dk i 0 i' s1 r1
    obtain ⟨n2, c2⟩ := adj_in dk j s1 j' s2 r2
    obtain ⟨n3, c3⟩ := adj_in dk k s2 k' s3 r3
    have HCH : Hid (choosePivot ltInt dk a b = (m, hintT t)) := by
      obtain ⟨q1, q2, q3, q4, q5⟩ := HQ.out
      exact piv_big dk a b q i' s1 j' s2 k' s3 m t q1 h50 (by rw [← q3]; exact r1) (by rw [← q4]; exact r2) (by rw [← q5]; exact r3) r4
    have HK1 := Hid.mk' (fun w1 C1 => medAdj_u32 blk off cap i w.heap.size 0 i' s1 d0 dk w0 w1 R hs C1 (by omega) (by omega) (by omega) hsz r1)
    have HK2 := Hid.mk' (fun w1 C1 => medAdj_u32 blk off cap j w.heap.size s1 j' s2 d0 dk w0 w1 R hs C1 (by omega) (by omega) (by omega) hsz r2)
    have HK3 := Hid.mk' (fun w1 C1 => medAdj_u32 blk off cap k w.heap.size s2 k' s3 d0 dk w0 w1 R hs C1 (by omega) (by omega) (by omega) hsz r3)
    have HK4 := Hid.mk' (fun w1 C1 => median_u32 blk off cap i' j' k' w.heap.size s3 m t d0 dk w0 w1 R hs C1 (by omega) (by omega) (by omega) (by omega) hsz r4)
    have hl50 : (50 : Int) ≤ (l : Int) := by have := HQ.out.2.1; omega
    clear n1 n2 n3 c1 c2 c3 S
    go_enter Try.func43, Try.ntmps43
    go_wp2_with fail
    all_goals (try (exfalso; omega))
    refine (HK1.out _ C0.out).mono ?_
    rintro e w1 ⟨rfl, g1⟩
    have C1 := Hid.mk' g1
    clear g1 C0
    go_wp2_with fail
    refine (HK2.out _ C1.out).mono ?_
    rintro e w2 ⟨rfl, g1⟩
    have C2 := Hid.mk' g1
    clear g1
    go_wp2_with fail
    refine (HK3.out _ C2.out).mono ?_
    rintro e w3 ⟨rfl, g1⟩
    have C3 := Hid.mk' g1
    clear g1
    go_wp2_with fail
    refine (HK4.out _ C3.out).mono ?_
    rintro e w4 ⟨rfl, g1⟩
    have C4 := Hid.mk' g1
    clear g1
    have hcc := C4.out.2.1
    have hcf := C4.out.2.2.1
    by_cases ht0 : t = 0
    · subst ht0
      go_wp2
      go_ret2
      rw [HCH.out]
      exact ⟨rfl, C4.out.1⟩
    · by_cases ht1 : t = 12
      · subst ht1
        go_wp2
        go_ret2
        rw [HCH.out]
        exact ⟨rfl, C4.out.1⟩
      · have t0z : ¬ (t : Int) = 0 := by omega
        have t1z : ¬ (t : Int) = 12 := by omega
        go_wp2
        all_goals (try (exfalso; omega))
        go_ret2
        rw [HCH.out, show hintT t = .unknown from by unfold hintT; rw [if_neg ht0, if_neg ht1]]
        exact ⟨rfl, C4.out.1⟩
  · obtain ⟨⟨m, t⟩, r4⟩ : ∃ r, median ltInt dk i j k 0 = r := ⟨_, rfl⟩
    have HCH : Hid (choosePivot ltInt dk a b = (m, hintT t)) := by
      obtain ⟨q1, q2, q3, q4, q5⟩ := HQ.out
      exact piv_small dk a b q m t q1 h8 h50 (by rw [← q3, ← q4, ← q5]; exact r4)
    have HK4 := Hid.mk' (fun w1 C1 => median_u32 blk off cap i j k w.heap.size 0 m t d0 dk w0 w1 R hs C1 (by omega) (by omega) (by omega) (by omega) hsz r4)
    have hl50 : ¬ (50 : Int) ≤ (l : Int) := by have := HQ.out.2.1; omega
    clear S
    go_enter Try.func43, Try.ntmps43
    go_wp2_with fail
    all_goals (try (exfalso; omega))
    refine (HK4.out _ C0.out).mono ?_
    rintro e w4 ⟨rfl, g1⟩
    have C4 := Hid.mk' g1
    clear g1 C0
    have hcc := C4.out.2.1
    have hcf := C4.out.2.2.1
    by_cases ht0 : t = 0
    · subst ht0
      go_wp2
      go_ret2
      rw [HCH.out]
      exact ⟨rfl, C4.out.1⟩
    · by_cases ht1 : t = 12
      · subst ht1
        go_wp2
        go_ret2
        rw [HCH.out]
        exact ⟨rfl, C4.out.1⟩
      · have t0z : ¬ (t : Int) = 0 := by omega
        have t1z : ¬ (t : Int) = 12 := by omega
        go_wp2
        all_goals (try (exfalso; omega))
        go_ret2
        rw [HCH.out, show hintT t = .unknown from by unfold hintT; rw [if_neg ht0, if_neg ht1]]
        exact ⟨rfl, C4.out.1⟩
end Go.Proofs.Ytconaifcjnpabaa.P

namespace Go.Proofs.Ytconaifcjnpabaa.P
open Go.RowKit Go.Sort Go.Shelf Go.Lib
set_option linter.unusedVariables false
set_option linter.unusedSimpArgs false
def lay_next_ren : Go.Shelf.Ren := ⟨fun | 48 => 61 | n => n, fun | 76 => 83 | 55 => 69 | 0 => 0 | 66 => 75 | 39 => 52 | n => n, fun n => n⟩
theorem lay_next : SlLaysF0.n48 Try.prog lay_next_ren := {
  mixed := by kernel_rfl,
  f48 := Try.func61.trans (congrArg some (by kernel_rfl)),
  t0 := Try.underlying0,
  a0 := Try.isAgg0,
  z0 := Try.sizeOf0,
  v0 := Try.zeroValue0,
  t39 := Try.underlying52,
  a39 := Try.isAgg52,
  z39 := Try.sizeOf52,
  v39 := Try.zeroValue52,
  t55 := Try.underlying69,
  a55 := Try.isAgg69,
  z55 := Try.sizeOf69,
  v55 := Try.zeroValue69,
  t66 := Try.underlying75,
  a66 := Try.isAgg75,
  z66 := Try.sizeOf75,
  v66 := Try.zeroValue75,
  t76 := Try.underlying83,
  a76 := Try.isAgg83,
  z76 := Try.sizeOf83,
  v76 := Try.zeroValue83 }

def lay_npot_ren : Go.Shelf.Ren := ⟨fun | 47 => 60 | 15 => 34 | 28 => 49 | 29 => 50 | n => n, fun | 3 => 3 | 39 => 52 | 53 => 29 | 55 => 69 | 4 => 4 | 5 => 5 | 9 => 9 | n => n, fun n => n⟩
theorem lay_npot : SlLaysF0.n47 Try.prog lay_npot_ren := {
  mixed := by kernel_rfl,
  f15 := Try.func34.trans (congrArg some (by kernel_rfl)),
  f28 := Try.func49.trans (congrArg some (by kernel_rfl)),
  f29 := Try.func50.trans (congrArg some (by kernel_rfl)),
  f47 := Try.func60.trans (congrArg some (by kernel_rfl)),
  t3 := Try.underlying3,
  a3 := Try.isAgg3,
  z3 := Try.sizeOf3,
  v3 := Try.zeroValue3,
  t4 := Try.underlying4,
  a4 := Try.isAgg4,
  z4 := Try.sizeOf4,
  v4 := Try.zeroValue4,
  t5 := Try.underlying5,
  a5 := Try.isAgg5,
  z5 := Try.sizeOf5,
  v5 := Try.zeroValue5,
  t9 := Try.underlying9,
  a9 := Try.isAgg9,
  z9 := Try.sizeOf9,
  v9 := Try.zeroValue9,
  t39 := Try.underlying52,
  a39 := Try.isAgg52,
  z39 := Try.sizeOf52,
  v39 := Try.zeroValue52,
  t53 := Try.underlying29,
  a53 := Try.isAgg29,
  z53 := Try.sizeOf29,
  v53 := Try.zeroValue29,
  t55 := Try.underlying69,
  a55 := Try.isAgg69,
  z55 := Try.sizeOf69,
  v55 := Try.zeroValue69 }

/-- A world of the sort's with a number of 64 bits in a cell of its own. -/
def Rnd (w0 : World) (blk off : Nat) (dk : Array Int) (c X : Nat) (W : World) : Prop :=
  SW (.int .u32) w0 blk off dk W ∧ W.cell? ⟨c, 0, none⟩ = some (.int .u64 (X : Int)) ∧ W.frozen? ⟨c, 0, none⟩ = false ∧ w0.heap.size ≤ c
theorem Rnd.next {w0 W : World} {blk off c X : Nat} {dk : Array Int} (h : Rnd w0 blk off dk c X W) (Y : Nat) : Rnd w0 blk off dk c Y ((W.setCell ⟨c, 0, none⟩ (.int .u64 (Y : Int))).drewN 3) :=
  ⟨(h.1.setCell_new c 0 _ h.2.2.2).drewN 3, by show (W.setCell ⟨c, 0, none⟩ (.int .u64 (Y : Int))).cell? _ = _; exact World.cell?_setCell_same' _ _ _ (by rw [h.2.1]; rfl), by show (W.setCell ⟨c, 0, none⟩ (.int .u64 (Y : Int))).frozen? _ = _; rw [World.frozen?_setCell]; exact h.2.2.1, h.2.2.2⟩
theorem Rnd.swap {w0 W : World} {blk off c X : Nat} {d0 dk : Array Int} (h : Rnd w0 blk off dk c X W) (R : Row1 (.int .u32) w0 blk off d0) (i j : Nat) (hi : i < dk.size) (hj : j < dk.size) :
    Rnd w0 blk off (swp dk i j) c X ((W.setCell ⟨blk, off + i, none⟩ (.int .u32 dk[j]!)).setCell ⟨blk, off + j, none⟩ (.int .u32 dk[i]!)).drew := by
  have hne : c ≠ blk := by have h1 := R.hblk; have h2 := h.2.2.2; omega
  have hk := box_kept_swap1 hne h.2.1 h.2.2.1 (off + i) (off + j) (.int .u32 dk[j]!) (.int .u32 dk[i]!)
  exact ⟨h.1.swapped R i j hi hj, hk.1, hk.2, h.2.2.2⟩
set_option maxHeartbeats 8000000 in
set_option maxRecDepth 100000 in
theorem break_u32 (blk off cap a L : Nat) (d0 d : Array Int) (w0 w : World) (R : Row1 (.int .u32) w0 blk off d0) (hs : d.size = d0.size) (S : SW (.int .u32) w0 blk off d w) (h8 : 8 ≤ L) (hb : a + L ≤ d0.size) (hsz : d0.size < 4611686018427387904) :
    Calls Try.prog 42 #[.slice (some ⟨blk, off, none⟩) d0.size cap, .int .i64 a, .int .i64 ((a + L : Nat) : Int)] w fun e w' => e = .returned (.tuple #[]) ∧ SW (.int .u32) w0 blk off (breakPatterns d a (a + L)) w' := by
  obtain ⟨b, hb0⟩ : ∃ b, b = a + L := ⟨_, rfl⟩
  rw [← hb0]
  obtain ⟨M, hM⟩ : ∃ M : Nat, M = 1 <<< bitsLen L := ⟨_, rfl⟩
  have hM1 : 1 ≤ M := by rw [hM, Nat.one_shiftLeft]; exact Nat.two_pow_pos _
  have hM2 : M ≤ 2 * L := by rw [hM, Nat.one_shiftLeft]; exact two_pow_bitsLen_le (by omega)
  obtain ⟨q, hq⟩ : ∃ q, q = L / 4 := ⟨_, rfl⟩
  obtain ⟨i0, hi0⟩ : ∃ i0, i0 = a + q * 2 - 1 := ⟨_, rfl⟩
  obtain ⟨i2, hi2⟩ : ∃ i2, i2 = i0 + 2 := ⟨_, rfl⟩
  have HB : Hid (breakPatterns d a b = bpRest a L M i0 3 0 (UInt64.ofNat L, d)) := by
    show breakPatterns d a b = _
    rw [hb0, breakPatterns_eq d a L h8, hM, hi0, hq]
  have HNP := Hid.mk' (fun w => AnyF.nextPowerOfTwo (P := Try.prog) lay_npot L (by omega) w)
  rw [← hM] at HNP
  have eL : (b : Int) - (a : Int) = (L : Int) := by omega
  have eq4 : (L : Int).tdiv 4 = (q : Int) := by rw [Int.tdiv_eq_ediv_of_nonneg (by omega)]; omega
  have e0 : (a : Int) + (q : Int) * 2 - 1 = (i0 : Int) := by omega
  have e2 : (a : Int) + (q : Int) * 2 + 1 = (i2 : Int) := by omega
  have hL8 : (8 : Int) ≤ (L : Int) := by omega
  have hLl : L < 4611686018427387904 := by omega
  have hi2l : i2 < b := by omega
  have hql : q ≤ L := by omega
  have HI2 : Hid (i2 = i0 + 2) := hi2
  have HBB : Hid (b = a + L) := hb0
  have hbl : b ≤ d0.size := by omega
  have hLb : L ≤ b := by omega
  have hab : a ≤ b := by omega
  clear hM hq hi0 hi2 hb hb0
  have Q0 : Hid (Rnd w0 blk off d w.heap.size L (w.alloc (.cells #[.int .u64 (L : Int)] 75))) := ⟨S.alloc _, by simp, by simp, S.le⟩
  clear S
  go_enter Try.func42, Try.ntmps42
  go_wp2_with fail
  refine (HNP.out _).mono ?_
  rintro e w1 ⟨rfl, rfl⟩
  go_wp2
  obtain ⟨c, hcc⟩ : ∃ c, c = w.heap.size := ⟨_, rfl⟩
  rw [← hcc] at Q0
  go_loopw [9, 10] (fun v9 v10 wr => ∃ (x t : Nat) (r : UInt64) (dk : Array Int), v9 = .int .i64 x ∧ Hid (x = i0 + t) ∧ t ≤ 3 ∧ x ≤ i2 + 1 ∧ dk.size = d0.size ∧ Hid (Rnd w0 blk off dk c r.toNat wr) ∧ Hid (bpRest a L M i0 (3 - t) t (r, dk) = bpRest a L M i0 3 0 (UInt64.ofNat L, d)))
    (fun v9 v10 _ => i2 + 1 - (intOf v9).toNat)
  case atStart => exact ⟨i0, 0, UInt64.ofNat L, d, rfl, rfl, by omega, by have := HI2.out; omega, hs, by rw [show (UInt64.ofNat L).toNat = L from by simp; omega]; exact Q0, rfl⟩
  case round =>
    clear Q0 hs
    obtain ⟨x, t, r, dk, rfl, HX, ht3, hxi, hds, Q1, HR⟩ := hrel
    by_cases hx : x ≤ i2
    · obtain ⟨X, hX⟩ : ∃ X : Nat, X = r.toNat := ⟨_, rfl⟩
      have lX : X < 18446744073709551616 := by rw [hX]; exact r.toNat_lt
      obtain ⟨Y, hY⟩ : ∃ Y : Nat, Y = xorNextN X := ⟨_, rfl⟩
      have lY : Y < 18446744073709551616 := by rw [hY]; exact xorNextN_lt X lX
      obtain ⟨O, hO⟩ : ∃ O : Nat, O = Y &&& (M - 1) := ⟨_, rfl⟩
      have lO : O ≤ M - 1 := by rw [hO]; exact Nat.and_le_right
      have eAnd : bits .and .u64 (Y : Int) ((M : Int) - 1) = (O : Int) := by
        rw [show ((M : Int) - 1) = ((M - 1 : Nat) : Int) by omega, bits_and_u64_nat _ _ lY (by omega), hO]
      have HN : Hid (Y = (xorNext r).toNat ∧ O = (xorNext r).toNat &&& (M - 1)) := by
        have e : Y = (xorNext r).toNat := by rw [hY, hX, xorNext_toNat]
        exact ⟨e, by rw [hO, e]⟩
      have hcB : wr.cell? ⟨c, 0, none⟩ = some (.int .u64 (X : Int)) := by rw [hX]; exact Q1.out.2.1
      have hNext := AnyF.xorshift_Next (P := Try.prog) lay_next c 0 X lX wr hcB Q1.out.2.2.1
      rw [← hY] at hNext
      have HNX := Hid.mk' hNext
      have Q2 : Hid (Rnd w0 blk off dk c Y ((wr.setCell ⟨c, 0, none⟩ (.int .u64 (Y : Int))).drewN 3)) := Q1.out.next Y
      clear hNext hX hY hO hcB Q1
      have hxl : x < d0.size := by omega
      go_wp2_with fail
      rw [← hcc]
      refine HNX.out.mono ?_
      rintro e w2 ⟨rfl, rfl⟩
      generalize (wr.setCell ⟨c, 0, none⟩ (.int .u64 (Y : Int))).drewN 3 = w2 at Q2 ⊢
      obtain ⟨G, hG, hc, hf⟩ := row_facts Q2.out.1 R hds
      go_wp2
      · have hLO : L ≤ O := by omega
        obtain ⟨p, hp⟩ : ∃ p, p = a + (O - L) := ⟨_, rfl⟩
        have ep : (a : Int) + ((O : Int) - (L : Int)) = (p : Int) := by omega
        have hpl : p < d0.size := by have := HBB.out; omega
        have HP : Hid (p = a + (O - L)) := hp
        clear hp
        obtain ⟨u, hu⟩ := Q2.out.1.c2 R hds x p (by omega) (by omega) (.int .u32 (G p))
        go_region
        all_goals go_wp2
        go_roundw
        case rel =>
          have ht : t < 3 := by have h1 := HX.out; have h2 := HI2.out; omega
          refine ⟨x + 1, t + 1, xorNext r, swp dk x p, by go_num, by have := HX.out; exact (by omega : x + 1 = i0 + (t + 1)), by omega, by omega, by rw [size_swp]; exact hds, ?_, ?_⟩
          · rw [← HN.out.1]
            have := Q2.out.swap R x p (by omega) (by omega)
            rw [← hG.out x, ← hG.out p] at this
            exact this
          · show _ = _
            rw [← HR.out, bp_step a L M i0 t r dk (O - L) ht (by rw [← HN.out.2, if_pos hLO]), ← HX.out, ← HP.out]
        case measure => simp [intOf]; omega
      · have hLO : ¬ L ≤ O := by omega
        obtain ⟨p, hp⟩ : ∃ p, p = a + O := ⟨_, rfl⟩
        have ep : (a : Int) + (O : Int) = (p : Int) := by omega
        have hpl : p < d0.size := by have := HBB.out; omega
        have HP : Hid (p = a + O) := hp
        clear hp
        obtain ⟨u, hu⟩ := Q2.out.1.c2 R hds x p (by omega) (by omega) (.int .u32 (G p))
        go_region
        all_goals go_wp2
        go_roundw
        case rel =>
          have ht : t < 3 := by have h1 := HX.out; have h2 := HI2.out; omega
          refine ⟨x + 1, t + 1, xorNext r, swp dk x p, by go_num, by have := HX.out; exact (by omega : x + 1 = i0 + (t + 1)), by omega, by omega, by rw [size_swp]; exact hds, ?_, ?_⟩
          · rw [← HN.out.1]
            have := Q2.out.swap R x p (by omega) (by omega)
            rw [← hG.out x, ← hG.out p] at this
            exact this
          · show _ = _
            rw [← HR.out, bp_step a L M i0 t r dk O ht (by rw [← HN.out.2, if_neg hLO]), ← HX.out, ← HP.out]
        case measure => simp [intOf]; omega
    · go_wp2
      go_end0
      have ht : t = 3 := by have h1 := HX.out; have h2 := HI2.out; omega
      have h := HR.out
      rw [ht] at h
      rw [HB.out, ← h]
      exact ⟨rfl, Q1.out.1⟩
end Go.Proofs.Ytconaifcjnpabaa.P

namespace Go.Proofs.Ytconaifcjnpabaa.P
open Go.RowKit Go.Sort Go.Shelf Go.Lib
set_option linter.unusedVariables false
set_option linter.unusedSimpArgs false
/-! Go's own sort at uint32: its loop and its recursion (after the kit's walk of the same code at int). -/
theorem hintZ_eq (h : Hint) : hintZ h = hintCode h := by cases h <;> rfl
theorem hintC_two {h : Hint} (e : hintCode h = 2) : h = .decreasing := by cases h <;> simp [hintCode] at e ⊢
theorem eighthU {x y p q : Nat} (h1 : q ≤ p) (h2 : y ≤ x) : decide (((x : Int) - (y : Int)) / 8 ≤ (p : Int) - (q : Int)) = decide (p - q ≥ (x - y) / 8) :=
  decide_eq_decide.2 ⟨fun h => by omega, fun h => by omega⟩
set_option maxHeartbeats 6400000 in
set_option maxRecDepth 1000000 in
theorem pdq_u32 (blk off cap : Nat) (d0 : Array Int) (w0 : World) (R : Row1 (.int .u32) w0 blk off d0) (hsz : d0.size < 4611686018427387904) : ∀ (N a b limit : Nat) (d : Array Int) (w : World), b - a < N → SW (.int .u32) w0 blk off d w → d.size = d0.size → a ≤ b → b ≤ d0.size → limit < 4611686018427387904 → Go.Sort.Below ltInt a b d →
    Calls Try.prog 33 #[.slice (some ⟨blk, off, none⟩) d0.size cap, .int .i64 a, .int .i64 b, .int .i64 limit] w fun e w' => e = .returned (.tuple #[]) ∧ SW (.int .u32) w0 blk off (pdq ltInt d a b limit true true) w' := by
  intro N
  induction N with
  | zero => intro _ _ _ _ _ h; exact absurd h (Nat.not_lt_zero _)
  | succ N ih =>
    intro a b limit d w hN hS0 hdd hab hb hlimit hBel0
    go_enter Try.func33, Try.ntmps33
    go_wp2
    go_loopg [1, 2, 3, 8, 9] (b - a) (fun k s1 s2 s3 s8 s9 wr => ∃ (a' b' lim : Nat) (wb wp : Bool) (dk : Array Int), s1 = .int .i64 a' ∧ s2 = .int .i64 b' ∧ s3 = .int .i64 lim ∧ s8 = .bool wb ∧ s9 = .bool wp ∧
      a' ≤ b' ∧ b' ≤ d0.size ∧ b' - a' ≤ k ∧ k ≤ b - a ∧ lim ≤ limit ∧ dk.size = d0.size ∧ Go.Sort.Below ltInt a' b' dk ∧ SW (.int .u32) w0 blk off dk wr ∧ pdq ltInt dk a' b' lim wb wp = pdq ltInt d a b limit true true)
    case atStart => exact ⟨a, b, limit, true, true, d, rfl, rfl, rfl, rfl, rfl, hab, hb, Nat.le_refl _, Nat.le_refl _, Nat.le_refl _, hdd, hBel0, hS0, rfl⟩
    case round =>
      obtain ⟨a', b', lim, wb, wp, dk, rfl, rfl, rfl, rfl, rfl, hab', hb', hk, hkN, hlim, hds, hBel, hAt, heq⟩ := hrel
      have A : Aside (pdq ltInt dk a' b' lim wb wp = pdq ltInt d a b limit true true) := heq
      clear heq
      by_cases h12 : b' - a' ≤ 12
      · -- 'if length <= maxInsertion'
        have h12z : (b' : Int) - (a' : Int) ≤ 12 := by omega
        have hc := insertion_u32 blk off cap a' b' d0 dk w0 wr R hds hAt hb' hsz (by omega)
        go_wp2_with (go_at_call 40; refine hc.mono ?_; rintro e w1 ⟨rfl, hw1⟩)
        (try simp only [Exit.inBlock, Exit.then]); refine bodyPost_ret (results_none rfl _ _ _) rfl ?_
        refine ⟨rfl, ?_⟩
        rw [← A.out, pdq_small h12]
        exact hw1
      · have h12z : ¬ ((b' : Int) - (a' : Int) ≤ 12) := by omega
        by_cases hl0 : lim = 0
        · -- 'if limit == 0'
          subst hl0
          have hc := heap_u32 blk off cap a' b' d0 dk w0 wr R hds hAt (by omega) hb' hsz
          go_wp2_with (go_at_call 41; refine hc.mono ?_; rintro e w1 ⟨rfl, hw1⟩)
          (try simp only [Exit.inBlock, Exit.then]); refine bodyPost_ret (results_none rfl _ _ _) rfl ?_
          refine ⟨rfl, ?_⟩
          rw [← A.out, pdq_heap h12 rfl]
          exact hw1
        · have hl0z : ¬ ((lim : Int) = 0) := by omega
          obtain ⟨s1, B1, hc1, s2, B2, hpv, s3, B3⟩ := rd_facts (limit := lim) (wb := wb) (wp := wp) swo_ltInt partialInsertionSort_holds reverseRange_holds (show a' < b' by omega) (show b' ≤ dk.size by omega) hBel
          go_upto_if 35 with fail
          go_cut [3] from 19 (fun s3 wc => s3 = .int .i64 (rd ltInt dk a' b' lim wb wp).lim ∧ SW (.int .u32) w0 blk off (rd ltInt dk a' b' lim wb wp).d1 wc)
          case first =>
            cases wb
            · obtain ⟨L, hL⟩ : ∃ L, b' = a' + L := ⟨b' - a', by omega⟩
              have hc := break_u32 blk off cap a' L d0 dk w0 wr R hds hAt (by omega) (by omega) hsz
              rw [← hL] at hc
              clear hL
              go_wp2_with (go_at_call 42; refine hc.mono ?_; rintro e w1 ⟨rfl, hw1⟩)
              go_meet
              case rel =>
                refine ⟨?_, hw1⟩
                show Value.int .i64 ((lim : Int) - 1) = Value.int .i64 ((lim - 1 : Nat) : Int)
                congr 1
                omega
            · go_wp2_with fail
              go_meet
              case rel => exact ⟨rfl, hAt⟩
          case rest =>
            obtain ⟨rfl, hAt1⟩ := hcut
            have hc17 := pivot_u32 blk off cap a' b' d0 (rd ltInt dk a' b' lim wb wp).d1 w0 wc R (s1.trans hds) hAt1 (by omega) hb' hsz
            rw [hintZ_eq] at hc17
            rw [← rd_c] at hc17
            go_upto_if 50 with (go_at_call 43; refine hc17.mono ?_; rintro e w2 ⟨rfl, hAt2⟩)
            go_cut [11, 12] from 19 (fun s11 s12 wc => s11 = .int .i64 (rd ltInt dk a' b' lim wb wp).pivot ∧ s12 = .int .i64 (hintCode (rd ltInt dk a' b' lim wb wp).hint) ∧ SW (.int .u32) w0 blk off (rd ltInt dk a' b' lim wb wp).d2 wc)
            case first =>
              by_cases hh : (rd ltInt dk a' b' lim wb wp).c.2 = .decreasing
              · have hcode : hintCode (rd ltInt dk a' b' lim wb wp).c.2 = 2 := by rw [hh]; rfl
                obtain ⟨e2, epv, eht⟩ := rd_dec hh
                have hc18 := reverse_u32 blk off cap a' b' d0 (rd ltInt dk a' b' lim wb wp).d1 w0 w2 R (s1.trans hds) hAt2 (by omega) hb' hsz
                go_wp2_with (go_at_call 44; refine hc18.mono ?_; rintro e w3 ⟨rfl, hw3⟩)
                go_meet
                case rel =>
                  refine ⟨?_, by rw [eht]; rfl, by rw [e2]; exact hw3⟩
                  rw [epv]
                  congr 1
                  omega
              · have hcode : ¬ (hintCode (rd ltInt dk a' b' lim wb wp).c.2 = 2) := fun h => hh (hintC_two h)
                obtain ⟨e2, epv, eht⟩ := rd_not hh
                go_wp2_with fail
                go_meet
                case rel => exact ⟨by rw [epv], by rw [eht], by rw [e2]; exact hAt2⟩
            case rest =>
              obtain ⟨rfl, rfl, hAt3⟩ := hcut
              go_upto_region 15 with fail
              go_cut [12, 68] from 19 (fun s12 s68 wx => s12 = .int .i64 (hintCode (rd ltInt dk a' b' lim wb wp).hint) ∧ s68 = .bool (wb && wp && decide ((rd ltInt dk a' b' lim wb wp).hint = .increasing)) ∧ wx = wc)
              case first =>
                cases wb <;> cases wp <;> cases hh3 : (rd ltInt dk a' b' lim _ _).hint <;>
                  (have hcode3 := congrArg hintCode hh3
                   simp only [hintCode] at hcode3
                   go_wp2_with fail
                   go_meet
                   exact ⟨by simp [hh3, hintCode], by simp [hh3, hintCode], rfl⟩)
              case rest =>
                obtain ⟨rfl, rfl, rfl⟩ := hcut
                go_upto_if 68 with fail
                go_cut [] from 19 (fun wx => (rd ltInt dk a' b' lim wb wp).pi.2 = false ∧ SW (.int .u32) w0 blk off (rd ltInt dk a' b' lim wb wp).pi.1 wx)
                case first =>
                  cases h68 : (wb && wp && decide ((rd ltInt dk a' b' lim wb wp).hint = .increasing))
                  · have epi := rd_pi_no h68
                    go_wp2_with fail
                    go_meet
                    case rel => exact ⟨by rw [epi], by rw [epi]; exact hAt3⟩
                  · have epi := rd_pi_yes h68
                    have hc19 := partial_u32 blk off cap a' b' d0 (rd ltInt dk a' b' lim wb wp).d2 w0 wc R (s2.trans hds) hAt3 (by omega) hb' hsz
                    rw [← epi] at hc19
                    go_wp2_with (go_at_call 45; refine hc19.mono ?_; rintro e w4 ⟨rfl, hw4, hw4s⟩)
                    all_goals first
                      | (have hp2 : (rd ltInt dk a' b' lim wb wp).pi.2 = false := by rw [epi]; assumption
                         go_meet
                         exact ⟨hp2, hw4⟩)
                      | (have hp2 : (rd ltInt dk a' b' lim wb wp).pi.2 = true := by rw [epi]; assumption
                         (try simp only [Exit.inBlock, Exit.then]); refine bodyPost_ret (results_none rfl _ _ _) rfl ?_
                         refine ⟨rfl, ?_⟩
                         rw [← A.out, pdq_done h12 hl0 hp2]
                         exact hw4)
                case rest =>
                  obtain ⟨hp2, hAt5⟩ := hcut
                  have hcw : ∀ t, t < d0.size → wc.cell? ⟨blk, off + t, none⟩ = some (.int .u32 (rd ltInt dk a' b' lim wb wp).pi.1[t]!) := fun t ht => hAt5.c1 R (s3.trans hds) t (by omega)
                  have hfw : ∀ t, t < d0.size → wc.frozen? ⟨blk, off + t, none⟩ = false := fun t ht => hAt5.f1 R (s3.trans hds) t (by omega)
                  go_upto_region 17 with fail
                  go_cut [87] from 19 (fun s87 wx => s87 = .bool (decide (a' > 0) && !ltInt (rd ltInt dk a' b' lim wb wp).pi.1[a' - 1]! (rd ltInt dk a' b' lim wb wp).pi.1[(rd ltInt dk a' b' lim wb wp).pivot]!) ∧ SW (.int .u32) w0 blk off (rd ltInt dk a' b' lim wb wp).pi.1 wx)
                  case first =>
                    rcases Nat.eq_zero_or_pos a' with ha0 | ha0
                    · have ha0z : decide ((a' : Int) > 0) = false := decide_eq_false (by omega)
                      go_big_quiet (first | (go_at_call 46; refine Calls.quiet_of_same (less_u32 _ _ _)))
                      go_wp2_with fail
                      go_meet
                      case rel => exact ⟨by simp [ha0], hAt5.drewN nq⟩
                    · have ha0z : (a' : Int) > 0 := by omega
                      go_big_quiet (first | (go_at_call 46; refine Calls.quiet_of_same (less_u32 _ _ _)))
                      go_wp2_with fail
                      go_meet
                      case rel => exact ⟨by simp [ha0], hAt5.drewN nq⟩
                  case rest =>
                    obtain ⟨rfl, hAt6⟩ := hcut
                    clear hcw hfw
                    cases h87 : (decide (a' > 0) && !ltInt (rd ltInt dk a' b' lim wb wp).pi.1[a' - 1]! (rd ltInt dk a' b' lim wb wp).pi.1[(rd ltInt dk a' b' lim wb wp).pivot]!)
                    · -- ████ 'mid, alreadyPartitioned := partitionOrdered(..)'; THE SMALLER SIDE BY A CALL OF ITSELF, the other by the next round
                      obtain ⟨mid, ap, d4, hx⟩ : ∃ mid ap d4, Sort.partition ltInt (rd ltInt dk a' b' lim wb wp).pi.1 a' b' (rd ltInt dk a' b' lim wb wp).pivot = (mid, ap, d4) := ⟨(Sort.partition ltInt (rd ltInt dk a' b' lim wb wp).pi.1 a' b' (rd ltInt dk a' b' lim wb wp).pivot).1, (Sort.partition ltInt (rd ltInt dk a' b' lim wb wp).pi.1 a' b' (rd ltInt dk a' b' lim wb wp).pivot).2.1, (Sort.partition ltInt (rd ltInt dk a' b' lim wb wp).pi.1 a' b' (rd ltInt dk a' b' lim wb wp).pivot).2.2, rfl⟩
                      obtain ⟨r1, r2, r3, r4, r5, r6, r7⟩ := round_part swo_ltInt (partition_holds ltInt) hpv.1 hpv.2 (show b' ≤ (rd ltInt dk a' b' lim wb wp).pi.1.size by omega) B3 hx
                      have hc22 := partition_u32 blk off cap a' b' (rd ltInt dk a' b' lim wb wp).pivot d0 (rd ltInt dk a' b' lim wb wp).pi.1 w0 wc R (s3.trans hds) hAt6 hpv.1 hpv.2 hb' hsz
                      rw [hx] at hc22
                      have X : Aside (Sort.partition ltInt (rd ltInt dk a' b' lim wb wp).pi.1 a' b' (rd ltInt dk a' b' lim wb wp).pivot = (mid, ap, d4)) := hx
                      clear hx
                      go_upto_if 113 with (go_at_call 48; refine hc22.mono ?_; rintro e w7 ⟨rfl, hAt7⟩)
                      have hx := X.out
                      by_cases h4 : mid - a' < b' - mid
                      · have h4z : (mid : Int) - (a' : Int) < (b' : Int) - (mid : Int) := by omega
                        have hih := ih a' mid (rd ltInt dk a' b' lim wb wp).lim d4 w7 (by omega) hAt7 (r3.trans (s3.trans hds)) (by omega) (by omega) (Nat.lt_of_le_of_lt (Nat.le_trans rd_lim_le hlim) hlimit) r4
                        obtain ⟨pL, sL⟩ := pdq_sorts ltInt swo_ltInt d4 a' mid (rd ltInt dk a' b' lim wb wp).lim true true (by omega) (by omega) r4
                        go_wp2_with (go_at_call 33; refine hih.mono ?_; rintro e w8 ⟨rfl, hw8⟩)
                        go_roundg (b' - (mid + 1))
                        case measure => omega
                        case rel =>
                          refine ⟨mid + 1, b', (rd ltInt dk a' b' lim wb wp).lim, decide (mid - a' ≥ (b' - a') / 8), ap, pdq ltInt d4 a' mid (rd ltInt dk a' b' lim wb wp).lim true true, by simp, rfl, rfl, ?_, rfl, by omega, by omega, Nat.le_refl _, by omega, Nat.le_trans rd_lim_le hlim, by rw [pL.1, r3, s3, hds], (r6 _ pL sL).1, hw8, ?_⟩
                          · exact congrArg Value.bool (eighthU (by omega) (by omega))
                          · rw [← A.out, pdq_left h12 hl0 hp2 h87 (by rw [hx]; exact ⟨r1, r2⟩) (by rw [hx]; exact h4), hx]
                      · have h4z : ¬ ((mid : Int) - (a' : Int) < (b' : Int) - (mid : Int)) := by omega
                        have hih := ih (mid + 1) b' (rd ltInt dk a' b' lim wb wp).lim d4 w7 (by omega) hAt7 (r3.trans (s3.trans hds)) (by omega) (by omega) (Nat.lt_of_le_of_lt (Nat.le_trans rd_lim_le hlim) hlimit) r5
                        obtain ⟨pL, sL⟩ := pdq_sorts ltInt swo_ltInt d4 (mid + 1) b' (rd ltInt dk a' b' lim wb wp).lim true true (by omega) (by omega) r5
                        go_wp2_with (go_at_call 33; refine hih.mono ?_; rintro e w8 ⟨rfl, hw8⟩)
                        go_roundg (mid - a')
                        case measure => omega
                        case rel =>
                          refine ⟨a', mid, (rd ltInt dk a' b' lim wb wp).lim, decide (b' - mid ≥ (b' - a') / 8), ap, pdq ltInt d4 (mid + 1) b' (rd ltInt dk a' b' lim wb wp).lim true true, rfl, rfl, rfl, ?_, rfl, by omega, by omega, Nat.le_refl _, by omega, Nat.le_trans rd_lim_le hlim, by rw [pL.1, r3, s3, hds], (r7 _ pL sL).1, hw8, ?_⟩
                          · exact congrArg Value.bool (eighthU (by omega) (by omega))
                          · rw [← A.out, pdq_right h12 hl0 hp2 h87 (by rw [hx]; exact ⟨r1, r2⟩) (by rw [hx]; exact h4), hx]
                    · -- ████ 'mid := partitionEqualOrdered(..); a = mid; continue'
                      have h87' := h87
                      simp only [Bool.and_eq_true, decide_eq_true_eq, Bool.not_eq_true'] at h87'
                      obtain ⟨mid, d4, hx⟩ : ∃ mid d4, partitionEqual ltInt (rd ltInt dk a' b' lim wb wp).pi.1 a' b' (rd ltInt dk a' b' lim wb wp).pivot = (mid, d4) := ⟨(partitionEqual ltInt (rd ltInt dk a' b' lim wb wp).pi.1 a' b' (rd ltInt dk a' b' lim wb wp).pivot).1, (partitionEqual ltInt (rd ltInt dk a' b' lim wb wp).pi.1 a' b' (rd ltInt dk a' b' lim wb wp).pivot).2, rfl⟩
                      obtain ⟨r1, r2, r3, r4, _⟩ := round_eq swo_ltInt (partitionEqual_holds ltInt) h87'.1 hpv.1 hpv.2 (show b' ≤ (rd ltInt dk a' b' lim wb wp).pi.1.size by omega) B3 h87'.2 hx
                      have hc21 := partEq_u32 blk off cap a' b' (rd ltInt dk a' b' lim wb wp).pivot d0 (rd ltInt dk a' b' lim wb wp).pi.1 w0 wc R (s3.trans hds) hAt6 hpv.1 hpv.2 hb' hsz
                      rw [hx] at hc21
                      have X : Aside (partitionEqual ltInt (rd ltInt dk a' b' lim wb wp).pi.1 a' b' (rd ltInt dk a' b' lim wb wp).pivot = (mid, d4)) := hx
                      clear hx
                      go_wp2_with (go_at_call 47; refine hc21.mono ?_; rintro e w7 ⟨rfl, hw7⟩)
                      go_roundg (b' - mid)
                      case measure => omega
                      case rel =>
                        have hx := X.out
                        exact ⟨mid, b', (rd ltInt dk a' b' lim wb wp).lim, wb, wp, d4, rfl, rfl, rfl, rfl, rfl, r2, hb', Nat.le_refl _, by omega, Nat.le_trans rd_lim_le hlim, by rw [r3, s3, hds], r4, hw7, by rw [← A.out, pdq_eq h12 hl0 hp2 h87 (by rw [hx]; exact ⟨r1, r2⟩), hx]⟩

end Go.Proofs.Ytconaifcjnpabaa.P

namespace Go.Proofs.Ytconaifcjnpabaa.P
open Go.Sort
set_option linter.unusedVariables false
/-! A list of numbers, sorted: one by one laid where it belongs. -/
def insU (x : Int) : List Int → List Int
  | [] => [x]
  | y :: s => if x ≤ y then x :: y :: s else y :: insU x s
def sortU : List Int → List Int
  | [] => []
  | x :: s => insU x (sortU s)
theorem insU_perm (x : Int) : ∀ l, (insU x l).Perm (x :: l)
  | [] => List.Perm.refl _
  | y :: s => by
    unfold insU
    split
    · exact List.Perm.refl _
    · exact ((insU_perm x s).cons y).trans (List.Perm.swap x y s)
theorem insU_pair (x : Int) : ∀ l, l.Pairwise (fun a b : Int => a ≤ b) → (insU x l).Pairwise (fun a b : Int => a ≤ b)
  | [], _ => by simp [insU]
  | y :: s, h => by
    rw [List.pairwise_cons] at h
    obtain ⟨h1, h2⟩ := h
    unfold insU
    split
    · rename_i hxy
      rw [List.pairwise_cons]
      refine ⟨?_, List.pairwise_cons.2 ⟨h1, h2⟩⟩
      intro a ha
      rcases List.mem_cons.1 ha with rfl | ha
      · exact hxy
      · exact Int.le_trans hxy (h1 a ha)
    · rename_i hxy
      rw [List.pairwise_cons]
      refine ⟨?_, insU_pair x s h2⟩
      intro a ha
      rcases List.mem_cons.1 ((insU_perm x s).mem_iff.1 ha) with rfl | ha
      · omega
      · exact h1 a ha
theorem sortU_perm : ∀ l, (sortU l).Perm l
  | [] => List.Perm.refl _
  | x :: s => (insU_perm x (sortU s)).trans ((sortU_perm s).cons x)
theorem sortU_pair : ∀ l, (sortU l).Pairwise (fun a b : Int => a ≤ b)
  | [] => List.Pairwise.nil
  | x :: s => insU_pair x _ (sortU_pair s)
theorem sortU_len (l : List Int) : (sortU l).length = l.length := (sortU_perm l).length_eq
theorem sortU_mem (l : List Int) (x : Int) : x ∈ sortU l ↔ x ∈ l := (sortU_perm l).mem_iff
theorem pair_unique (l r : List Int) (h : l.Perm r) (h1 : l.Pairwise (fun a b : Int => a ≤ b)) (h2 : r.Pairwise (fun a b : Int => a ≤ b)) : l = r :=
  List.Perm.eq_of_pairwise (le := fun a b : Int => a ≤ b) (fun a b _ _ x y => Int.le_antisymm x y) h1 h2 h
theorem sortU_self (l : List Int) (h : l.Pairwise (fun a b : Int => a ≤ b)) : sortU l = l := pair_unique _ _ (sortU_perm l) (sortU_pair l) h
theorem sortU_merge (l : List Int) : l.mergeSort (fun x y => decide (x ≤ y)) = sortU l := by
  refine pair_unique _ _ ((List.mergeSort_perm _ _).trans (sortU_perm l).symm) ?_ (sortU_pair l)
  have h := List.pairwise_mergeSort (le := fun x y : Int => decide (x ≤ y)) (fun a b c h1 h2 => by simp only [decide_eq_true_eq] at *; omega) (fun a b => by by_cases h : a ≤ b; simp [h]; simp [h]; omega) l
  exact h.imp (fun h => by simpa using h)
theorem sort_arr (l : List Int) : Go.Sort.sort ltInt l.toArray = (sortU l).toArray := by
  have h := sortInt l
  rw [sortU_merge] at h
  rw [← h]
end Go.Proofs.Ytconaifcjnpabaa.P

namespace Go.Proofs.Ytconaifcjnpabaa.P
open Go.RowKit Go.Proofs.YtconaifcjnpabaaW.PrintWords Go.Proofs.YtconaifcjnpabaaW.PrintLast Go.Proofs.YtconaifcjnpabaaW.PrintMore Go.Lib Go.Shelf Go.Sort
set_option linter.unusedVariables false
set_option linter.unusedSimpArgs false
/-! Go's own sort of a slice of uint32, whatever its length. -/
def lay_bitsLen_ren : Go.Shelf.Ren := ⟨fun | 15 => 34 | 28 => 49 | 29 => 50 | n => n, fun | 39 => 52 | 3 => 3 | 53 => 29 | 55 => 69 | 4 => 4 | 5 => 5 | 9 => 9 | n => n, fun n => n⟩
theorem lay_bitsLen : SlLaysF0.n15 Try.prog lay_bitsLen_ren := {
  mixed := by kernel_rfl,
  f15 := Try.func34.trans (congrArg some (by kernel_rfl)),
  f28 := Try.func49.trans (congrArg some (by kernel_rfl)),
  f29 := Try.func50.trans (congrArg some (by kernel_rfl)),
  t3 := Try.underlying3,
  a3 := Try.isAgg3,
  z3 := Try.sizeOf3,
  v3 := Try.zeroValue3,
  t4 := Try.underlying4,
  a4 := Try.isAgg4,
  z4 := Try.sizeOf4,
  v4 := Try.zeroValue4,
  t5 := Try.underlying5,
  a5 := Try.isAgg5,
  z5 := Try.sizeOf5,
  v5 := Try.zeroValue5,
  t9 := Try.underlying9,
  a9 := Try.isAgg9,
  z9 := Try.sizeOf9,
  v9 := Try.zeroValue9,
  t39 := Try.underlying52,
  a39 := Try.isAgg52,
  z39 := Try.sizeOf52,
  v39 := Try.zeroValue52,
  t53 := Try.underlying29,
  a53 := Try.isAgg29,
  z53 := Try.sizeOf29,
  v53 := Try.zeroValue29,
  t55 := Try.underlying69,
  a55 := Try.isAgg69,
  z55 := Try.sizeOf69,
  v55 := Try.zeroValue69 }

def Sort_u32.f (k : Nat) (l0 : List Int) : Option (List Int) := if l0.length < 4611686018427387904 then some (sortU l0) else none
theorem Sort_u32.mono : ∀ a0 k, LeO (Sort_u32.f k a0) (Sort_u32.f (k + 1) a0) := fun a0 k r h => h
theorem bits_len (n : Nat) (hn : n < 4611686018427387904) (W : World) : Calls Try.prog 34 #[.int .u64 (n : Int)] W fun e w' => e = .returned (.int .i64 (bitsLen n : Nat)) ∧ w' = W := by
  have h := Any.bits_Len (SlLaysF0.n15.bits (P := Try.prog) (ρ := lay_bitsLen_ren) lay_bitsLen) (n : Int) W (by omega) (by omega)
  rwa [Int.toNat_natCast, bitLen_eq _ (by omega)] at h
theorem ins_nil (w : World) : Calls Try.prog 40 #[.slice none 0 0, .int .i64 0, .int .i64 0] w fun e w' => e = .returned (.tuple #[]) ∧ ∃ q, w' = w.drewN q := by
  go_enter Try.func40, Try.ntmps40
  go_wp2
  refine wp_loop_rounds 1 ?_
  rw [rounds_succ]
  go_wp2
  go_end0
  exact ⟨rfl, 0, rfl⟩
theorem pdq_nil (w : World) : Calls Try.prog 33 #[.slice none 0 0, .int .i64 0, .int .i64 0, .int .i64 0] w fun e w' => e = .returned (.tuple #[]) ∧ ∃ q, w' = w.drewN q := by
  go_enter Try.func33, Try.ntmps33
  go_wp2
  refine wp_loop_rounds 1 ?_
  rw [rounds_succ]
  go_wp2_with (first | (go_at_call 40; refine (ins_nil _).mono ?_; rintro e w1 ⟨rfl, q, rfl⟩))
  refine bodyPost_ret (results_none rfl _ _ _) rfl ?_
  exact ⟨rfl, q, rfl⟩
theorem sort_nil (w : World) : Calls Try.prog 22 #[.slice none 0 0] w fun e w' => e = .returned (.tuple #[]) ∧ ∃ q, w' = w.drewN q := by
  have HBL := Go.Lib.hid (bits_len 0 (by omega) w)
  go_enter Try.func22, Try.ntmps22
  go_wp2_with (first | (go_at_call 34; refine HBL.out.mono ?_; rintro e w1 ⟨rfl, rfl⟩) | (go_at_call 33; refine (pdq_nil _).mono ?_; rintro e w1 ⟨rfl, q, rfl⟩))
  go_end0
  exact ⟨rfl, q, rfl⟩
theorem sort_row (blk off cap : Nat) (l : List Int) (w : World) (hH : Holds (.int .u32) w blk off l.toArray) (hblk : blk < w.heap.size) (hsz : l.length < 4611686018427387904) :
    Calls Try.prog 22 #[.slice (some ⟨blk, off, none⟩) l.length cap] w fun e w' => e = .returned (.tuple #[]) ∧ SW (.int .u32) w blk off (sortU l).toArray w' := by
  have hlim : bitsLen l.length < 4611686018427387904 := Nat.lt_of_le_of_lt ((bitsLen_le_iff l.length 62).2 (by omega)) (by omega)
  have K := pdq_u32 blk off cap l.toArray w (row_u32 hH hblk) (by simpa using hsz) (l.length + 1) 0 l.length (bitsLen l.length) l.toArray w (by omega) (SW.start hH) rfl (Nat.zero_le _) (by simp) hlim (Or.inl rfl)
  have e : pdq ltInt l.toArray 0 l.length (bitsLen l.length) true true = (sortU l).toArray := by
    rw [← sort_arr l]
    unfold Go.Sort.sort
    simp
  rw [e] at K
  simp only [List.size_toArray] at K
  have HP := Go.Lib.hid K
  have HBL := Go.Lib.hid (bits_len l.length hsz w)
  have wrp : IntKind.u64.wrap (l.length : Int) = l.length := by simp [IntKind.wrap, IntKind.bits, IntKind.signed]; omega
  clear K e hlim hH hblk
  go_enter Try.func22, Try.ntmps22
  go_wp2_with (first | (go_at_call 34; refine HBL.out.mono ?_; rintro e w1 ⟨rfl, rfl⟩) | (go_at_call 33; refine HP.out.mono ?_; rintro e w1 ⟨rfl, h1⟩; have H1 := Go.Lib.hid h1; clear h1))
  go_end0
  exact ⟨rfl, H1.out⟩
theorem Sort_u32.calls (k : Nat) (P0_ : Nat → Prop) (u9000_ : Value) (l0 : List Int) (r : List Int) (w0 w : World) (hB : Below w0.heap.size w0 w) (ho0 : Kd.R (Kd.int .u32) 29 w w0.heap.size P0_ u9000_ l0) (h : Sort_u32.f k l0 = some r) :
    Calls Try.prog 22 #[u9000_] w fun e w' => e = .returned (.tuple #[]) ∧ Kd.R (Kd.int .u32) 29 w' w0.heap.size (fun k_ => (P0_ k_ ∨ w.heap.size ≤ k_)) u9000_ r ∧ Below w0.heap.size w0 w' ∧ Kept w w' (fun k_ => P0_ k_) := by
  unfold Sort_u32.f at h
  by_cases hl : l0.length < 4611686018427387904
  · rw [if_pos hl] at h
    have hr := Option.some.inj h
    clear h
    rcases bridge_down (d := Kd.int .u32) (enc := fun x : Int => [.int .u32 x]) (fun h => h) (fun _ => rfl) (by decide) ho0 with ⟨rfl, rfl⟩ | ⟨g, cap, cur, rfl, hbase, hb, hnc, hcm, hcs, hok, hH⟩
    · have hrn : r = [] := by rw [← hr]; rfl
      subst hrn
      refine (sort_nil w).mono ?_
      rintro e w' ⟨rfl, q, rfl⟩
      exact ⟨rfl, Kd.R_nil _ _ _ _ _, ⟨hB.os, hB.tape, hB.output, hB.size, hB.block⟩, Kept.refl _ _⟩
    · refine (sort_row g 0 cap l0 w (holds_one _ _ _ _ _ hH) (blk_lt hb) hl).mono ?_
      rintro e w' ⟨rfl, m, os, rfl⟩
      rw [hr]
      have hyl : r.length = l0.length := by rw [← hr]; exact sortU_len l0
      have hup := bridge_up (d := Kd.int .u32) (enc := fun x : Int => [.int .u32 x]) (ys := r) (fun _ _ _ _ => rfl) (fun _ => rfl) (by decide) hB hbase hb hyl hnc hcm hcs hok m os
      rw [show (Kd.int .u32).sz = 1 from rfl, ← putRow_one] at hup
      exact ⟨rfl, hup⟩
  · rw [if_neg hl] at h
    exact absurd h (by simp)
end Go.Proofs.Ytconaifcjnpabaa.P

namespace Go.Proofs.Ytconaifcjnpabaa.P
open Go.RowKit Go.Proofs.YtconaifcjnpabaaW.PrintWords Go.Proofs.YtconaifcjnpabaaW.PrintLast Go.Proofs.YtconaifcjnpabaaW.PrintMore Go.Sort Go.Shelf Go.Lib
set_option linter.unusedVariables false
set_option linter.unusedSimpArgs false
instance : Inhabited S33 := ⟨z33⟩
/-- What Norm's closure says of two spans. -/
def cmpSpan (a b : S33) : Int := if a.f0 < b.f0 then -1 else if b.f0 < a.f0 then 1 else 0
def SortFunc_Span.f (l0 : List S33) : Option (List S33) := if l0.length < 4611686018427387904 then some (pdq (ltOf cmpSpan) l0.toArray 0 l0.length (Go.Lib.bitLen l0.length) true true).toList else none
theorem ltSpan (x y : S33) : ltOf cmpSpan x y = decide (x.f0 < y.f0) := by
  unfold ltOf cmpSpan
  by_cases h1 : x.f0 < y.f0
  · simp [h1]
  · by_cases h2 : y.f0 < x.f0 <;> simp [h1, h2]
theorem swoSpan : SWO (ltOf cmpSpan) where
  irrefl x := by rw [ltSpan]; simp
  trans x y z h1 h2 := by rw [ltSpan] at *; simp at *; omega
  ntrans x y z h1 h2 := by rw [ltSpan] at *; simp at *; omega
/-- A permutation in order: off the sort's own plain law. -/
theorem sortFunc_Span_sorts (l : List S33) (hl : l.length < 4611686018427387904) : ∃ t, SortFunc_Span.f l = some t ∧ t.Perm l ∧ t.Pairwise (fun a b => a.f0 ≤ b.f0) := by
  refine ⟨_, if_pos hl, ?_⟩
  obtain ⟨⟨h1, h2, h3⟩, h4⟩ := pdq_sorts (ltOf cmpSpan) swoSpan l.toArray 0 l.length (Go.Lib.bitLen l.length) true true (Nat.zero_le _) (by simp) (Or.inl rfl)
  generalize pdq (ltOf cmpSpan) l.toArray 0 l.length (Go.Lib.bitLen l.length) true true = D at h1 h3 h4
  have hs : D.size = l.length := by simpa using h1
  have hp : D.toList.Perm l := by
    have e1 : D.extract 0 l.length = D := by rw [← hs]; simp
    have e2 : l.toArray.extract 0 l.length = l.toArray := by simp
    rw [e1, e2] at h3
    exact h3
  refine ⟨hp, ?_⟩
  rw [List.pairwise_iff_getElem]
  intro i j hi hj hij
  have hj' : j < l.length := by rw [← hs]; simpa using hj
  have h5 := h4 i j (Nat.zero_le _) hij hj'
  rw [ltSpan, getElem!_pos D j (by omega), getElem!_pos D i (by omega), decide_eq_false_iff_not] at h5
  rw [Array.getElem_toList, Array.getElem_toList]
  omega
def lay_SortFunc_Span_ren : Go.Shelf.Ren := ⟨fun | 6 => 26 | 15 => 34 | 14 => 36 | 28 => 49 | 29 => 50 | 20 => 51 | 21 => 52 | 22 => 53 | 23 => 54 | 24 => 55 | 25 => 56 | 26 => 57 | 27 => 58 | 46 => 64 | 47 => 60 | 48 => 61 | 49 => 65 | 50 => 66 | 57 => 68 | n => n, fun | 22 => 24 | 24 => 33 | 25 => 44 | 3 => 3 | 39 => 52 | 0 => 0 | 53 => 29 | 55 => 69 | 4 => 4 | 46 => 60 | 45 => 59 | 50 => 65 | 5 => 5 | 9 => 9 | 66 => 75 | 70 => 79 | 76 => 83 | 77 => 84 | n => n, fun n => n⟩
theorem lay_SortFunc_Span : SlLaysF0.n6 Try.prog lay_SortFunc_Span_ren := {
  mixed := by kernel_rfl,
  f6 := ⟨Try.f26.name, by decide, Try.func26.trans (congrArg some (by kernel_rfl))⟩,
  f14 := ⟨Try.f36.name, by decide, Try.func36.trans (congrArg some (by kernel_rfl))⟩,
  f15 := Try.func34.trans (congrArg some (by kernel_rfl)),
  f20 := ⟨Try.f51.name, by decide, Try.func51.trans (congrArg some (by kernel_rfl))⟩,
  f21 := ⟨Try.f52.name, by decide, Try.func52.trans (congrArg some (by kernel_rfl))⟩,
  f22 := ⟨Try.f53.name, by decide, Try.func53.trans (congrArg some (by kernel_rfl))⟩,
  f23 := ⟨Try.f54.name, by decide, Try.func54.trans (congrArg some (by kernel_rfl))⟩,
  f24 := ⟨Try.f55.name, by decide, Try.func55.trans (congrArg some (by kernel_rfl))⟩,
  f25 := ⟨Try.f56.name, by decide, Try.func56.trans (congrArg some (by kernel_rfl))⟩,
  f26 := ⟨Try.f57.name, by decide, Try.func57.trans (congrArg some (by kernel_rfl))⟩,
  f27 := ⟨Try.f58.name, by decide, Try.func58.trans (congrArg some (by kernel_rfl))⟩,
  f28 := Try.func49.trans (congrArg some (by kernel_rfl)),
  f29 := Try.func50.trans (congrArg some (by kernel_rfl)),
  f46 := ⟨Try.f64.name, by decide, Try.func64.trans (congrArg some (by kernel_rfl))⟩,
  f47 := Try.func60.trans (congrArg some (by kernel_rfl)),
  f48 := Try.func61.trans (congrArg some (by kernel_rfl)),
  f49 := ⟨Try.f65.name, by decide, Try.func65.trans (congrArg some (by kernel_rfl))⟩,
  f50 := ⟨Try.f66.name, by decide, Try.func66.trans (congrArg some (by kernel_rfl))⟩,
  f57 := ⟨Try.f68.name, by decide, Try.func68.trans (congrArg some (by kernel_rfl))⟩,
  t0 := Try.underlying0,
  a0 := Try.isAgg0,
  z0 := Try.sizeOf0,
  v0 := Try.zeroValue0,
  t3 := Try.underlying3,
  a3 := Try.isAgg3,
  z3 := Try.sizeOf3,
  v3 := Try.zeroValue3,
  t4 := Try.underlying4,
  a4 := Try.isAgg4,
  z4 := Try.sizeOf4,
  v4 := Try.zeroValue4,
  t5 := Try.underlying5,
  a5 := Try.isAgg5,
  z5 := Try.sizeOf5,
  v5 := Try.zeroValue5,
  t9 := Try.underlying9,
  a9 := Try.isAgg9,
  z9 := Try.sizeOf9,
  v9 := Try.zeroValue9,
  t22 := Try.underlying24,
  a22 := Try.isAgg24,
  z22 := Try.sizeOf24,
  v22 := Try.zeroValue24,
  t25 := Try.underlying44,
  a25 := Try.isAgg44,
  z25 := Try.sizeOf44,
  v25 := Try.zeroValue44,
  t39 := Try.underlying52,
  a39 := Try.isAgg52,
  z39 := Try.sizeOf52,
  v39 := Try.zeroValue52,
  t45 := Try.underlying59,
  a45 := Try.isAgg59,
  z45 := Try.sizeOf59,
  v45 := Try.zeroValue59,
  t46 := Try.underlying60,
  a46 := Try.isAgg60,
  z46 := Try.sizeOf60,
  v46 := Try.zeroValue60,
  t50 := Try.underlying65,
  a50 := Try.isAgg65,
  z50 := Try.sizeOf65,
  v50 := Try.zeroValue65,
  t53 := Try.underlying29,
  a53 := Try.isAgg29,
  z53 := Try.sizeOf29,
  v53 := Try.zeroValue29,
  t55 := Try.underlying69,
  a55 := Try.isAgg69,
  z55 := Try.sizeOf69,
  v55 := Try.zeroValue69,
  t66 := Try.underlying75,
  a66 := Try.isAgg75,
  z66 := Try.sizeOf75,
  v66 := Try.zeroValue75,
  t70 := Try.underlying79,
  a70 := Try.isAgg79,
  z70 := Try.sizeOf79,
  v70 := Try.zeroValue79,
  t76 := Try.underlying83,
  a76 := Try.isAgg83,
  z76 := Try.sizeOf83,
  v76 := Try.zeroValue83,
  t77 := Try.underlying84,
  a77 := Try.isAgg84,
  z77 := Try.sizeOf84,
  v77 := Try.zeroValue84 }

def encSpan (x : S33) : List Value := [.int .u32 x.f0, .int .u32 x.f1]
set_option maxHeartbeats 1000000 in
theorem cmp_u32 (a b : Int) (W : World) : Calls Try.prog 28 #[.int .u32 a, .int .u32 b] W fun e w' => e = .returned (.int .i64 (if a < b then -1 else if b < a then 1 else 0)) ∧ w' = W := by
  by_cases h1 : a < b
  · have n1 : ¬ b < a := by omega
    go_enter Try.func28, Try.ntmps28
    go_wp2
    all_goals (go_ret; exact ⟨by simp [h1], rfl⟩)
  · by_cases h2 : b < a
    · go_enter Try.func28, Try.ntmps28
      go_wp2
      all_goals (go_ret; exact ⟨by simp [h1, h2], rfl⟩)
    · go_enter Try.func28, Try.ntmps28
      go_wp2
      all_goals (go_ret; exact ⟨by simp [h1, h2], rfl⟩)
theorem closureSpan (x y : S33) (W : World) : Calls Try.prog 27 #[.agg #[.int .u32 x.f0, .int .u32 x.f1], .agg #[.int .u32 y.f0, .int .u32 y.f1]] W fun e w' => e = .returned (.int .i64 (cmpSpan x y)) ∧ ∃ q os', w' = grow (W.drewN q) os' := by
  have hcon := fun W' => cmp_u32 x.f0 y.f0 W'
  unfold cmpSpan
  generalize (if x.f0 < y.f0 then (-1 : Int) else if y.f0 < x.f0 then 1 else 0) = r at hcon ⊢
  have hu33 := Try.underlying33
  go_enter Try.func27, Try.ntmps27
  go_wp2_with (go_at_call 28; refine (hcon _).mono ?_; rintro e w' ⟨rfl, rfl⟩)
  go_ret
  exact ⟨rfl, 0, _, by rw [alloc_eq_grow, alloc_eq_grow, grow_grow]; rfl⟩
theorem cmpLaysSpan (blk off size : Nat) (w : World) : CmpLays Try.prog 27 #[] encSpan 2 cmpSpan blk off size w := fun _ _ _ _ x y => closureSpan x y _
theorem SortFunc_Span.calls (P0_ : Nat → Prop) (u9000_ : Value) (l0 : List S33) (r : List S33) (w0 w : World) (hB : Below w0.heap.size w0 w) (ho0 : Kd.R k33 33 w w0.heap.size P0_ u9000_ l0) (h : SortFunc_Span.f l0 = some r) :
    Calls Try.prog 26 #[u9000_, .func (.func 27) #[] #[]] w fun e w' => e = .returned (.tuple #[]) ∧ Kd.R k33 33 w' w0.heap.size (fun k_ => (P0_ k_ ∨ w.heap.size ≤ k_)) u9000_ r ∧ Below w0.heap.size w0 w' ∧ Kept w w' (fun k_ => P0_ k_) := by
  unfold SortFunc_Span.f at h
  by_cases hsz : l0.length < 4611686018427387904
  · rw [if_pos hsz] at h
    have hr := Option.some.inj h
    clear h
    rcases bridge_down (d := k33) (enc := encSpan) (fun h => k33_openM h) (fun _ => rfl) (by decide) ho0 with ⟨rfl, rfl⟩ | ⟨g, cap, cur, rfl, hbase, hb, hnc, hcm, hcs, hok, hH⟩
    · have hcon := AnyF.slices_SortFunc_none (P := Try.prog) (ρ := lay_SortFunc_Span_ren) { lay_SortFunc_Span with } none 0 (.func (.func 27) #[] #[]) w
      refine (show Calls Try.prog 26 _ _ _ from hcon).mono ?_
      rintro e w' ⟨rfl, rfl⟩
      refine ⟨rfl, ?_, hB, Kept.refl _ _⟩
      have hrn : r = [] := by
        obtain ⟨t, h1, h2, _⟩ := sortFunc_Span_sorts [] hsz
        rw [SortFunc_Span.f, if_pos hsz] at h1
        rw [← hr, Option.some.inj h1]
        exact List.Perm.eq_nil h2
      subst hrn
      exact Kd.R_nil _ _ _ _ _
    · have hcon := AnyQ.slices_SortFunc_eq lay_SortFunc_Span k33.sz Try.isAgg33 Try.sizeOf33 encSpan (fun _ => rfl) (fun x v hv => by simp [encSpan] at hv; rcases hv with rfl | rfl <;> rfl) cmpSpan swoSpan 27 #[] g 0 cap l0.toArray w
        (enters_of Try.func27 (by kernel_rfl) rfl) (cmpLaysSpan g 0 _ w) hH (blk_lt hb) (by simpa using hsz)
      refine (show Calls Try.prog 26 _ _ _ from hcon).mono ?_
      rintro e w' ⟨rfl, n, os, rfl⟩
      refine ⟨rfl, ?_⟩
      have hrl : r.length = l0.length := by
        obtain ⟨t, h1, h2, _⟩ := sortFunc_Span_sorts l0 hsz
        rw [SortFunc_Span.f, if_pos hsz] at h1
        rw [← hr, Option.some.inj h1]
        exact h2.length_eq
      have hD : pdq (ltOf cmpSpan) l0.toArray 0 l0.toArray.size (Go.Lib.bitLen l0.toArray.size) true true = r.toArray := by rw [← hr]; simp
      rw [hD]
      exact bridge_up (d := k33) (enc := encSpan) (fun _ _ _ _ => k33_mkM _ _ _ _) (fun _ => rfl) (by decide) hB hbase hb hrl hnc hcm hcs hok n os
  · rw [if_neg hsz] at h
    exact absurd h (by simp)
end Go.Proofs.Ytconaifcjnpabaa.P
