/- Part of the proof of the law ActSets: the functions that it reaches, by contract. -/
import Derived.Test.YtgelpccjdndfoaaProg
import Derived.Below
import Derived.Deep.Draws
import Derived.Deep.AppendLies
import Derived.Maps.AppendAt
import Derived.OwnWalk
import Derived.Laws.BytesArg
import Derived.Laws.MakeOwn
import Derived.Laws.OwnMore
import Derived.Deep.OwnRows
import Derived.Tactics
import Derived.Lib.ConvBytes
import Derived.Laws.Slices
import Derived.WalkKit
import Derived.KernelRfl
import Derived.RowKit3
import Derived.Deep.LoopGhost
import Derived.Deep.QuietTactic
import Derived.BigQuiet
import Derived.WideLaws
import Derived.Deep.DeepCutAuto
import Derived.Deep.CutBlock
import Derived.Deep.RegionHeld3
import Derived.Laws.Rows
import Derived.Lib.AppendStr
import Derived.ArgAppend
import Derived.Laws.IdiomCopy
import Derived.OrdersHeld
import Derived.Laws.BitsLemmas
import Derived.RowKit
import Derived.WalkMore
import Derived.Test.YtgelpccjdndfoaaCActSetsVWords
import Derived.Test.YtgelpccjdndfoaaCActSetsVLast
import Derived.Test.YtgelpccjdndfoaaCActSetsVTab
import Derived.Test.YtgelpccjdndfoaaCActSetsVQPut
import Derived.Test.YtgelpccjdndfoaaCActSetsVApart
import Derived.Test.YtgelpccjdndfoaaCActSetsVArr
import Derived.Test.YtgelpccjdndfoaaCActSetsVZeros
import Derived.Test.YtgelpccjdndfoaaCActSetsVFoot
import Derived.Test.YtgelpccjdndfoaaCActSetsVKept
import Derived.Test.YtgelpccjdndfoaaCActSetsVShare
import Derived.Test.YtgelpccjdndfoaaCActSetsVN
import Derived.Test.YtgelpccjdndfoaaCActSetsVRepsOne
import Derived.Test.YtgelpccjdndfoaaCActSetsVInv
import Derived.Test.YtgelpccjdndfoaaCActSetsVGuard
import Derived.Test.YtgelpccjdndfoaaCActSetsVNEv
import Derived.Test.YtgelpccjdndfoaaCActSetsVMore
import Derived.Lib.Hide
import Derived.Shelf.Abstract
import Derived.Lib.SliceRun
import GoSem.Core.Float
import Derived.WalkLawsBesides
import Derived.Shelf.GgSortFunc.RowK
import Derived.Shelf.SlicesE.Compact
import Derived.Shelf.SlSortCmp.Kit1
import Derived.Sort.WalkC4
import Derived.Sort.WalkB12
import Derived.Sort.AssemblyPlain
import Derived.RegionTactic
import Derived.Sort.WalkB3
import Derived.Sort.LotD4
import Derived.Sort.Walk7
import Derived.Shelf.SlSortCmp.Xorshift
set_option linter.unusedVariables false
set_option linter.unusedSimpArgs false
namespace Go.Proofs.Ytgelpccjdndfoaa.P
open Go.RowKit Go.Proofs.YtgelpccjdndfoaaW.PrintWords Go.Proofs.YtgelpccjdndfoaaW.PrintLast Go.Proofs.YtgelpccjdndfoaaW.PrintMore
attribute [local go_sem] max2_int min2_int max_two min_two max_three min_three max_four min_four
def errW : Option Int → Value
  | none => .nilIface
  | some c => .iface 0 (.int .i64 c)
theorem errW_none : errW none = .nilIface := rfl
theorem errW_some (c : Int) : errW (some c) = .iface 0 (.int .i64 c) := rfl

theorem info22 : (Try.prog.info? 22).map (fun i => (i.zero, i.size, i.bytes)) = some (some (.int .u32 0), 1, 4) := by kernel_rfl
/-! #### struct type 28 -/
structure S28 where
  f0 : Int
  f1 : Int
def k28 : Kd S28 := Kd.iso (Kd.pair (Kd.int .u32) (Kd.int .i64)) (fun x : S28 => (x.f0, x.f1))
theorem k28_open {w : World} {x : S28} {cs : List Value} (h : k28.K w x cs) : cs = [.int .u32 x.f0, .int .i64 x.f1] := by
  obtain ⟨_, _, rfl, rfl, rfl⟩ := h
  exact rfl
/-! #### struct type 90 -/
structure S90 where
  f0 : S28
  f1 : Int
  f2 : Int
def k90 : Kd S90 := Kd.iso (Kd.pair k28 (Kd.pair (Kd.int .i64) (Kd.int .i64))) (fun x : S90 => (x.f0, x.f1, x.f2))
/-! #### struct type 92 -/
structure S92 where
  f0 : Bool
  f1 : S90
def k92 : Kd S92 := Kd.iso (Kd.pair Kd.bool k90) (fun x : S92 => (x.f0, x.f1))
/-! #### struct type 152 -/
structure S152 where
  f0 : Int
  f1 : Int
def k152 : Kd S152 := Kd.iso (Kd.pair (Kd.int .u32) (Kd.int .u32)) (fun x : S152 => (x.f0, x.f1))
/-! #### struct type 74, nested in itself -/
structure S74 where
  f0 : Int
  f1 : (List S152)
  f2 : (List S74)
def z74 : S74 := ⟨(0 : Int), ([] : List S152), ([] : List S74)⟩
def F74 (d : Kd S74) : Kd S74 := Kd.iso (Kd.pair (Kd.int .i64) (Kd.pair (Kd.slice 152 k152) (Kd.slice 74 d))) (fun x : S74 => (x.f0, x.f1, x.f2))
theorem sub74 : Kd.Sub F74 [74, 152] := Kd.sub_iso _ (Kd.sub_pair (Kd.sub_const _ (by decide)) (Kd.sub_pair (Kd.sub_const _ (by decide)) (Kd.sub_slice 74 (by decide) Kd.sub_id)))
theorem sz74 : ∀ n, (Kd.upto F74 3 [74, 152] n).sz = 3 := Kd.upto_sz (fun _ => rfl)
def k74 : Kd S74 := Kd.fix F74 3 [74, 152] sz74 (Kd.upto_E sub74)
theorem k74_open {w : World} {x : S74} {cs : List Value} (h : k74.K w x cs) : ∃ A1 c1 A2 c2, cs = [.int .i64 x.f0, .slice A1 x.f1.length c1, .slice A2 x.f2.length c2] ∧ x.f1.length ≤ c1 ∧ k152.C w A1 x.f1.length x.f1 ∧ x.f2.length ≤ c2 ∧ k74.C w A2 x.f2.length x.f2 := by
  obtain ⟨n, h⟩ := h
  cases n with
  | zero => exact h.elim
  | succ n =>
    obtain ⟨_, _, rfl, rfl, ⟨_, _, rfl, ⟨A1, c1, rfl, l1, g1⟩, ⟨A2, c2, rfl, l2, g2⟩⟩⟩ := h
    exact ⟨A1, c1, A2, c2, rfl, l1, g1, l2, Kd.fix_C g2⟩
def rd_T74 (xs : List S74) (i : Int) : S74 := xs.getD i.toNat z74
theorem at_T74 {w : World} {A : Option Addr} {n : Nat} {xs : List S74} (h : Kd.C k74 w A n xs) (i : Int) (h0 : 0 ≤ i) (h1 : i < n) : ∃ ad A1 c1 A2 c2, A = some ad ∧ w.cell? (ad.add (i.toNat * 3)) = some (.int .i64 (rd_T74 xs i).f0) ∧ w.cell? ⟨(ad.add (i.toNat * 3)).block, (ad.add (i.toNat * 3)).off + 1, none⟩ = some (.slice A1 (rd_T74 xs i).f1.length c1) ∧ w.cell? ⟨(ad.add (i.toNat * 3)).block, (ad.add (i.toNat * 3)).off + 2, none⟩ = some (.slice A2 (rd_T74 xs i).f2.length c2) ∧ (rd_T74 xs i).f1.length ≤ c1 ∧ k152.C w A1 (rd_T74 xs i).f1.length (rd_T74 xs i).f1 ∧ (rd_T74 xs i).f2.length ≤ c2 ∧ k74.C w A2 (rd_T74 xs i).f2.length (rd_T74 xs i).f2 := by
  obtain ⟨ad, c, e, _, hK, hc0⟩ := Kd.C_get h z74 i h0 h1
  have hc : ∀ j u, c[j]? = some u → w.cell? (ad.add (i.toNat * 3 + j)) = some u := hc0
  obtain ⟨A1, c1, A2, c2, rfl, l1, g1, l2, g2⟩ := k74_open hK
  exact ⟨ad, A1, c1, A2, c2, e, hc 0 _ rfl, by rw [← add_field _ _ 1 (by omega)]; exact hc 1 _ rfl, by rw [← add_field _ _ 2 (by omega)]; exact hc 2 _ rfl, l1, g1, l2, g2⟩

/-! #### struct type 76 -/
structure S76 where
  f0 : Bool
  f1 : S74
def z76 : S76 := ⟨false, z74⟩
def k76 : Kd S76 := Kd.iso (Kd.pair Kd.bool k74) (fun x : S76 => (x.f0, x.f1))
theorem k76_open {w : World} {x : S76} {cs : List Value} (h : k76.K w x cs) : ∃ A2 c2 A3 c3, cs = [.bool x.f0, .int .i64 x.f1.f0, .slice A2 x.f1.f1.length c2, .slice A3 x.f1.f2.length c3] ∧ x.f1.f1.length ≤ c2 ∧ k152.C w A2 x.f1.f1.length x.f1.f1 ∧ x.f1.f2.length ≤ c3 ∧ k74.C w A3 x.f1.f2.length x.f1.f2 := by
  obtain ⟨_, _, rfl, rfl, s1⟩ := h
  obtain ⟨A2, c2, A3, c3, rfl, l2, g2, l3, g3⟩ := k74_open s1
  exact ⟨A2, c2, A3, c3, rfl, l2, g2, l3, g3⟩
def rd_T76 (xs : List S76) (i : Int) : S76 := xs.getD i.toNat z76
theorem at_T76 {w : World} {A : Option Addr} {n : Nat} {xs : List S76} (h : Kd.C k76 w A n xs) (i : Int) (h0 : 0 ≤ i) (h1 : i < n) : ∃ ad A2 c2 A3 c3, A = some ad ∧ w.cell? (ad.add (i.toNat * 4)) = some (.bool (rd_T76 xs i).f0) ∧ w.cell? ⟨(ad.add (i.toNat * 4)).block, (ad.add (i.toNat * 4)).off + 1, none⟩ = some (.int .i64 (rd_T76 xs i).f1.f0) ∧ w.cell? ⟨(ad.add (i.toNat * 4)).block, (ad.add (i.toNat * 4)).off + 2, none⟩ = some (.slice A2 (rd_T76 xs i).f1.f1.length c2) ∧ w.cell? ⟨(ad.add (i.toNat * 4)).block, (ad.add (i.toNat * 4)).off + 3, none⟩ = some (.slice A3 (rd_T76 xs i).f1.f2.length c3) ∧ (rd_T76 xs i).f1.f1.length ≤ c2 ∧ k152.C w A2 (rd_T76 xs i).f1.f1.length (rd_T76 xs i).f1.f1 ∧ (rd_T76 xs i).f1.f2.length ≤ c3 ∧ k74.C w A3 (rd_T76 xs i).f1.f2.length (rd_T76 xs i).f1.f2 := by
  obtain ⟨ad, c, e, _, hK, hc0⟩ := Kd.C_get h z76 i h0 h1
  have hc : ∀ j u, c[j]? = some u → w.cell? (ad.add (i.toNat * 4 + j)) = some u := hc0
  obtain ⟨A2, c2, A3, c3, rfl, l2, g2, l3, g3⟩ := k76_open hK
  exact ⟨ad, A2, c2, A3, c3, e, hc 0 _ rfl, by rw [← add_field _ _ 1 (by omega)]; exact hc 1 _ rfl, by rw [← add_field _ _ 2 (by omega)]; exact hc 2 _ rfl, by rw [← add_field _ _ 3 (by omega)]; exact hc 3 _ rfl, l2, g2, l3, g3⟩

/-! #### struct type 50 -/
structure S50 where
  f0 : Int
  f1 : Int
def z50 : S50 := ⟨(0 : Int), (0 : Int)⟩
def k50 : Kd S50 := Kd.iso (Kd.pair (Kd.int .u32) (Kd.int .u32)) (fun x : S50 => (x.f0, x.f1))
theorem k50_heap : Kd.Heap k50 := Kd.heap_iso _ (Kd.heap_pair (Kd.heap_int .u32) (Kd.heap_int .u32))
theorem k50_open {w : World} {x : S50} {cs : List Value} (h : k50.K w x cs) : cs = [.int .u32 x.f0, .int .u32 x.f1] := by
  obtain ⟨_, _, rfl, rfl, rfl⟩ := h
  exact rfl
theorem k50_mkM (w : World) (base : Nat) (ok : Nat → Prop) (x : S50)  : k50.M w base ok x [.int .u32 x.f0, .int .u32 x.f1] := ⟨[.int .u32 x.f0], [.int .u32 x.f1], rfl, rfl, rfl⟩
def rd_T50 (xs : List S50) (i : Int) : S50 := xs.getD i.toNat z50
theorem at_T50 {w : World} {A : Option Addr} {n : Nat} {xs : List S50} (h : Kd.C k50 w A n xs) (i : Int) (h0 : 0 ≤ i) (h1 : i < n) : ∃ ad , A = some ad ∧ w.cell? (ad.add (i.toNat * 2)) = some (.int .u32 (rd_T50 xs i).f0) ∧ w.cell? ⟨(ad.add (i.toNat * 2)).block, (ad.add (i.toNat * 2)).off + 1, none⟩ = some (.int .u32 (rd_T50 xs i).f1) := by
  obtain ⟨ad, c, e, _, hK, hc0⟩ := Kd.C_get h z50 i h0 h1
  have hc : ∀ j u, c[j]? = some u → w.cell? (ad.add (i.toNat * 2 + j)) = some u := hc0
  obtain rfl := k50_open hK
  exact ⟨ad, e, hc 0 _ rfl, by rw [← add_field _ _ 1 (by omega)]; exact hc 1 _ rfl⟩

/-! #### struct type 53 -/
structure S53 where
  f0 : Bool
  f1 : (List S50)
def z53 : S53 := ⟨false, ([] : List S50)⟩
def k53 : Kd S53 := Kd.iso (Kd.pair Kd.bool (Kd.slice 50 k50)) (fun x : S53 => (x.f0, x.f1))
theorem k53_heap : Kd.Heap k53 := Kd.heap_iso _ (Kd.heap_pair Kd.heap_bool (Kd.heap_slice 50 k50_heap))
theorem k53_open {w : World} {x : S53} {cs : List Value} (h : k53.K w x cs) : ∃ A1 c1, cs = [.bool x.f0, .slice A1 x.f1.length c1] ∧ x.f1.length ≤ c1 ∧ k50.C w A1 x.f1.length x.f1 := by
  obtain ⟨_, _, rfl, rfl, ⟨A1, c1, rfl, l1, g1⟩⟩ := h
  exact ⟨A1, c1, rfl, l1, g1⟩
theorem k53_mk (w : World) (x : S53) {A1 : Option Addr} {c1 : Nat} (l1 : x.f1.length ≤ c1) (g1 : k50.C w A1 x.f1.length x.f1) : k53.K w x [.bool x.f0, .slice A1 x.f1.length c1] := ⟨[.bool x.f0], [.slice A1 x.f1.length c1], rfl, rfl, ⟨A1, c1, rfl, l1, g1⟩⟩
theorem k53_mkF (W : World) (ok : Nat → Prop) (x : S53) {A1 : Option Addr} {c1 : Nat} (l1 : x.f1.length ≤ c1) (g1 : Kd.F k50 W ok A1 x.f1.length x.f1) : Kd.FK k53 W ok x [.bool x.f0, .slice A1 x.f1.length c1] := fun W2 hW => k53_mk W2 x l1 (g1 W2 hW)
def rd_T53 (xs : List S53) (i : Int) : S53 := xs.getD i.toNat z53
theorem at_T53 {w : World} {A : Option Addr} {n : Nat} {xs : List S53} (h : Kd.C k53 w A n xs) (i : Int) (h0 : 0 ≤ i) (h1 : i < n) : ∃ ad A1 c1, A = some ad ∧ w.cell? (ad.add (i.toNat * 2)) = some (.bool (rd_T53 xs i).f0) ∧ w.cell? ⟨(ad.add (i.toNat * 2)).block, (ad.add (i.toNat * 2)).off + 1, none⟩ = some (.slice A1 (rd_T53 xs i).f1.length c1) ∧ (rd_T53 xs i).f1.length ≤ c1 ∧ k50.C w A1 (rd_T53 xs i).f1.length (rd_T53 xs i).f1 := by
  obtain ⟨ad, c, e, _, hK, hc0⟩ := Kd.C_get h z53 i h0 h1
  have hc : ∀ j u, c[j]? = some u → w.cell? (ad.add (i.toNat * 2 + j)) = some u := hc0
  obtain ⟨A1, c1, rfl, l1, g1⟩ := k53_open hK
  exact ⟨ad, A1, c1, e, hc 0 _ rfl, by rw [← add_field _ _ 1 (by omega)]; exact hc 1 _ rfl, l1, g1⟩

def rd_L16 (xs : List (List Int)) (i : Int) : (List Int) := xs.getD i.toNat ([] : List Int)
theorem at_L16 {w : World} {A : Option Addr} {n : Nat} {xs : List (List Int)} (h : Kd.C (Kd.slice 22 (Kd.int .u32)) w A n xs) (i : Int) (h0 : 0 ≤ i) (h1 : i < n) : ∃ ad A0 c0, A = some ad ∧ w.cell? (ad.add i.toNat) = some (.slice A0 (rd_L16 xs i).length c0) ∧ (rd_L16 xs i).length ≤ c0 ∧ (Kd.int .u32).C w A0 (rd_L16 xs i).length (rd_L16 xs i) := by
  obtain ⟨ad, c, e, _, hK, hc0⟩ := Kd.C_get h ([] : List Int) i h0 h1
  have hc : ∀ j u, c[j]? = some u → w.cell? (ad.add (i.toNat * 1 + j)) = some u := hc0
  obtain ⟨A0, c0, rfl, l0, g0⟩ := hK
  exact ⟨ad, A0, c0, e, by have hq := hc 0 _ rfl; rwa [Nat.mul_one, Nat.add_zero] at hq, l0, g0⟩

/-! #### struct type 26 -/
structure S26 where
  f0 : Int
  f1 : Int
  f2 : (List Int)
  f3 : (List S53)
def z26 : S26 := ⟨(0 : Int), (0 : Int), ([] : List Int), ([] : List S53)⟩
def k26 : Kd S26 := Kd.iso (Kd.pair (Kd.int .i64) (Kd.pair (Kd.int .u32) (Kd.pair (Kd.slice 22 (Kd.int .u32)) (Kd.slice 53 k53)))) (fun x : S26 => (x.f0, x.f1, x.f2, x.f3))
theorem k26_open {w : World} {x : S26} {cs : List Value} (h : k26.K w x cs) : ∃ A2 c2 A3 c3, cs = [.int .i64 x.f0, .int .u32 x.f1, .slice A2 x.f2.length c2, .slice A3 x.f3.length c3] ∧ x.f2.length ≤ c2 ∧ (Kd.int .u32).C w A2 x.f2.length x.f2 ∧ x.f3.length ≤ c3 ∧ k53.C w A3 x.f3.length x.f3 := by
  obtain ⟨_, _, rfl, rfl, ⟨_, _, rfl, rfl, ⟨_, _, rfl, ⟨A2, c2, rfl, l2, g2⟩, ⟨A3, c3, rfl, l3, g3⟩⟩⟩⟩ := h
  exact ⟨A2, c2, A3, c3, rfl, l2, g2, l3, g3⟩
def rd_T26 (xs : List S26) (i : Int) : S26 := xs.getD i.toNat z26
theorem at_T26 {w : World} {A : Option Addr} {n : Nat} {xs : List S26} (h : Kd.C k26 w A n xs) (i : Int) (h0 : 0 ≤ i) (h1 : i < n) : ∃ ad A2 c2 A3 c3, A = some ad ∧ w.cell? (ad.add (i.toNat * 4)) = some (.int .i64 (rd_T26 xs i).f0) ∧ w.cell? ⟨(ad.add (i.toNat * 4)).block, (ad.add (i.toNat * 4)).off + 1, none⟩ = some (.int .u32 (rd_T26 xs i).f1) ∧ w.cell? ⟨(ad.add (i.toNat * 4)).block, (ad.add (i.toNat * 4)).off + 2, none⟩ = some (.slice A2 (rd_T26 xs i).f2.length c2) ∧ w.cell? ⟨(ad.add (i.toNat * 4)).block, (ad.add (i.toNat * 4)).off + 3, none⟩ = some (.slice A3 (rd_T26 xs i).f3.length c3) ∧ (rd_T26 xs i).f2.length ≤ c2 ∧ (Kd.int .u32).C w A2 (rd_T26 xs i).f2.length (rd_T26 xs i).f2 ∧ (rd_T26 xs i).f3.length ≤ c3 ∧ k53.C w A3 (rd_T26 xs i).f3.length (rd_T26 xs i).f3 := by
  obtain ⟨ad, c, e, _, hK, hc0⟩ := Kd.C_get h z26 i h0 h1
  have hc : ∀ j u, c[j]? = some u → w.cell? (ad.add (i.toNat * 4 + j)) = some u := hc0
  obtain ⟨A2, c2, A3, c3, rfl, l2, g2, l3, g3⟩ := k26_open hK
  exact ⟨ad, A2, c2, A3, c3, e, hc 0 _ rfl, by rw [← add_field _ _ 1 (by omega)]; exact hc 1 _ rfl, by rw [← add_field _ _ 2 (by omega)]; exact hc 2 _ rfl, by rw [← add_field _ _ 3 (by omega)]; exact hc 3 _ rfl, l2, g2, l3, g3⟩

/-! #### struct type 30 -/
structure S30 where
  f0 : S28
  f1 : (List Int)
  f2 : (List Int)
  f3 : Int
  f4 : Int
  f5 : Int
  f6 : Int
def k30 : Kd S30 := Kd.iso (Kd.pair k28 (Kd.pair (Kd.slice 22 (Kd.int .u32)) (Kd.pair (Kd.slice 22 (Kd.int .u32)) (Kd.pair (Kd.int .u32) (Kd.pair (Kd.int .u32) (Kd.pair (Kd.int .i64) (Kd.int .u32))))))) (fun x : S30 => (x.f0, x.f1, x.f2, x.f3, x.f4, x.f5, x.f6))
theorem k30_open {w : World} {x : S30} {cs : List Value} (h : k30.K w x cs) : ∃ A2 c2 A3 c3, cs = [.int .u32 x.f0.f0, .int .i64 x.f0.f1, .slice A2 x.f1.length c2, .slice A3 x.f2.length c3, .int .u32 x.f3, .int .u32 x.f4, .int .i64 x.f5, .int .u32 x.f6] ∧ x.f1.length ≤ c2 ∧ (Kd.int .u32).C w A2 x.f1.length x.f1 ∧ x.f2.length ≤ c3 ∧ (Kd.int .u32).C w A3 x.f2.length x.f2 := by
  obtain ⟨_, _, rfl, s0, ⟨_, _, rfl, ⟨A2, c2, rfl, l2, g2⟩, ⟨_, _, rfl, ⟨A3, c3, rfl, l3, g3⟩, ⟨_, _, rfl, rfl, ⟨_, _, rfl, rfl, ⟨_, _, rfl, rfl, rfl⟩⟩⟩⟩⟩⟩ := h
  obtain rfl := k28_open s0
  exact ⟨A2, c2, A3, c3, rfl, l2, g2, l3, g3⟩
def arrA68 (c0 c1 c2 c3 c4 c5 c6 c7 : Int) (i : Int) : Int := if i = 0 then c0 else if i = 1 then c1 else if i = 2 then c2 else if i = 3 then c3 else if i = 4 then c4 else if i = 5 then c5 else if i = 6 then c6 else c7
theorem arrA68_run (c0 c1 c2 c3 c4 c5 c6 c7 i : Int) (h0 : 0 ≤ i) (h1 : i < 8) : ∀ w : World, (Instr.index 68 (.agg #[.int .i64 c0, .int .i64 c1, .int .i64 c2, .int .i64 c3, .int .i64 c4, .int .i64 c5, .int .i64 c6, .int .i64 c7]) (.int .i64 i)).run Try.prog w = .ok (.int .i64 (arrA68 c0 c1 c2 c3 c4 c5 c6 c7 i)) w := by
  have hk : i = 0 ∨ i = 1 ∨ i = 2 ∨ i = 3 ∨ i = 4 ∨ i = 5 ∨ i = 6 ∨ i = 7 := by omega
  rcases hk with rfl | rfl | rfl | rfl | rfl | rfl | rfl | rfl <;> intro w <;> kernel_rfl
end Go.Proofs.Ytgelpccjdndfoaa.P
namespace Go.Proofs.Ytgelpccjdndfoaa.P
open Go.RowKit Go.Proofs.YtgelpccjdndfoaaW.PrintWords Go.Proofs.YtgelpccjdndfoaaW.PrintLast Go.Proofs.YtgelpccjdndfoaaW.PrintMore
/-! Short words for what the printed walks say again and again. -/
section
variable {W0 W W1 w : World} {g n : Nat} {o : Obj}
theorem bkW (h : Aside0 (W0.heap[g]? = some o)) (hw : W0.heap[g]? = some o → W.heap[g]? = some o := by (intro h_; (with_reducible repeat (first | refine blk_drewN ?_ _ | refine blk_drew ?_ | refine blk_alloc ?_ _)); exact h_)) : W.heap[g]? = some o := hw h.out
theorem bkV (h : Aside0 (W0.heap[g]? = some o)) (hw : W0.heap[g]? = some o → W.heap[g]? = some o := by (intro h_; (with_reducible repeat (first | refine blk_drewN ?_ _ | refine blk_drew ?_ | refine blk_alloc ?_ _ | refine blk_far ?_ (Aside0.out (by with_reducible assumption)) _)); exact h_)) : W.heap[g]? = some o := hw h.out
theorem bvB (h : Aside0 (W0.heap[g]? = some o)) (hb : Below W.heap.size W W1) (hw : W0.heap[g]? = some o → W.heap[g]? = some o := by (intro h_; (with_reducible repeat (first | refine blk_drewN ?_ _ | refine blk_drew ?_ | refine blk_alloc ?_ _ | refine blk_far ?_ (Aside0.out (by with_reducible assumption)) _)); exact h_)) : Aside0 (W1.heap[g]? = some o) := ⟨blk_below (hw h.out) hb⟩
theorem bkB (h : Aside0 (W0.heap[g]? = some o)) (hb : Below W.heap.size W W1) (hw : W0.heap[g]? = some o → W.heap[g]? = some o := by (intro h_; (with_reducible repeat (first | refine blk_drewN ?_ _ | refine blk_drew ?_ | refine blk_alloc ?_ _)); exact h_)) : Aside0 (W1.heap[g]? = some o) := ⟨blk_below (hw h.out) hb⟩
theorem hbW (h : Aside0 (Below n w W0)) (hw : Below n w W0 → Below n w W := by (intro h_; repeat (first | (with_reducible first | exact h_ | apply below_alloc | apply pw_below_drewN | apply below_drew1 | refine below_set ?_ (Aside0.out (by with_reducible assumption))) | exact h_))) : Below n w W := hw h.out
theorem hbS (h : Aside0 (Below w.heap.size w W0)) (hb : Below W.heap.size W W1) (hw : Below w.heap.size w W0 → Below w.heap.size w W := by (intro h_; repeat (first | (with_reducible first | exact h_ | apply below_alloc | apply pw_below_drewN | apply below_drew1 | refine below_set ?_ (Aside0.out (by with_reducible assumption))) | exact h_))) : Aside0 (Below w.heap.size w W1) := ⟨below_step (hw h.out) hb⟩
def TyB (w : World) (g t : Nat) : Prop := ∃ cells, w.heap[g]? = some (.cells cells t (0, 0))
theorem TyB.of {cs : Array Value} {t : Nat} (h : Aside0 (w.heap[g]? = some (.cells cs t (0, 0)))) : TyB w g t := ⟨cs, h.out⟩
theorem TyB.alloc {t : Nat} {o : Obj} (h : TyB w g t) : TyB (w.alloc o) g t := by obtain ⟨c, h⟩ := h; exact ⟨c, blk_alloc h _⟩
theorem TyB.drew {t : Nat} (h : TyB w g t) : TyB w.drew g t := h
theorem TyB.drewN {t m : Nat} (h : TyB w g t) : TyB (w.drewN m) g t := h
theorem TyB.set {t g' j : Nat} {u : Value} (h : TyB w g t) : TyB (w.setCell ⟨g', j, none⟩ u) g t := by
  obtain ⟨c, h⟩ := h
  by_cases hp : g = g'
  · subst hp
    exact ⟨_, blk_put h j u rfl⟩
  · exact ⟨c, (Below.heap_setCell w ⟨g', j, none⟩ u g hp).trans h⟩
variable {α : Type} {d : Kd α} {e base : Nat} {ok ok' : Nat → Prop} {v : Value} {xs : List α}
theorem R_setT {t j : Nat} {u : Value} (hT : TyB w g t) (hd : ∀ q, q ∈ e :: d.E → q ≠ t) (h : d.R e w base ok v xs) : d.R e (w.setCell ⟨g, j, none⟩ u) base ok v xs := by
  obtain ⟨cells, hb⟩ := hT
  exact Kd.R_set h hb hd j u
/-- A row of the call's own, some cells of other types written since. -/
theorem rW (h : Aside0 (d.R e W0 base ok v xs)) (hw : d.R e W0 base ok v xs → d.R e W base ok v xs := by (intro h_; (with_reducible repeat (first | apply Kd.R_alloc | apply Kd.R_drewN | apply Kd.R_drew | refine R_setT (by (with_reducible repeat (first | apply TyB.set | apply TyB.alloc | apply TyB.drewN | apply TyB.drew)); exact TyB.of (by with_reducible assumption)) (by decide) ?_)); exact h_)) : d.R e W base ok v xs := hw h.out
/-! A block all of whose cells were written, one by one. -/
theorem bp2 {t : Nat} {a0 a1 u0 u1 : Value} (h : Aside0 (W0.heap[g]? = some (.cells #[a0, a1] t (0, 0)))) (hw : W0.heap[g]? = some (.cells #[a0, a1] t (0, 0)) → W.heap[g]? = some (.cells #[a0, a1] t (0, 0)) := by (intro h_; (with_reducible repeat (first | refine blk_drewN ?_ _ | refine blk_drew ?_ | refine blk_alloc ?_ _ | refine blk_far ?_ (Aside0.out (by with_reducible assumption)) _)); exact h_)) : ((W.setCell ⟨g, 0, none⟩ u0).setCell ⟨g, 1, none⟩ u1).heap[g]? = some (.cells #[u0, u1] t (0, 0)) := blk_put (cs' := #[u0, u1]) (blk_put (cs' := #[u0, a1]) (hw h.out) 0 u0 rfl) 1 u1 rfl
theorem bp3 {t : Nat} {a0 a1 a2 u0 u1 u2 : Value} (h : Aside0 (W0.heap[g]? = some (.cells #[a0, a1, a2] t (0, 0)))) (hw : W0.heap[g]? = some (.cells #[a0, a1, a2] t (0, 0)) → W.heap[g]? = some (.cells #[a0, a1, a2] t (0, 0)) := by (intro h_; (with_reducible repeat (first | refine blk_drewN ?_ _ | refine blk_drew ?_ | refine blk_alloc ?_ _ | refine blk_far ?_ (Aside0.out (by with_reducible assumption)) _)); exact h_)) : (((W.setCell ⟨g, 0, none⟩ u0).setCell ⟨g, 1, none⟩ u1).setCell ⟨g, 2, none⟩ u2).heap[g]? = some (.cells #[u0, u1, u2] t (0, 0)) := blk_put (cs' := #[u0, u1, u2]) (blk_put (cs' := #[u0, u1, a2]) (blk_put (cs' := #[u0, a1, a2]) (hw h.out) 0 u0 rfl) 1 u1 rfl) 2 u2 rfl
theorem bp4 {t : Nat} {a0 a1 a2 a3 u0 u1 u2 u3 : Value} (h : Aside0 (W0.heap[g]? = some (.cells #[a0, a1, a2, a3] t (0, 0)))) (hw : W0.heap[g]? = some (.cells #[a0, a1, a2, a3] t (0, 0)) → W.heap[g]? = some (.cells #[a0, a1, a2, a3] t (0, 0)) := by (intro h_; (with_reducible repeat (first | refine blk_drewN ?_ _ | refine blk_drew ?_ | refine blk_alloc ?_ _ | refine blk_far ?_ (Aside0.out (by with_reducible assumption)) _)); exact h_)) : ((((W.setCell ⟨g, 0, none⟩ u0).setCell ⟨g, 1, none⟩ u1).setCell ⟨g, 2, none⟩ u2).setCell ⟨g, 3, none⟩ u3).heap[g]? = some (.cells #[u0, u1, u2, u3] t (0, 0)) := blk_put (cs' := #[u0, u1, u2, u3]) (blk_put (cs' := #[u0, u1, u2, a3]) (blk_put (cs' := #[u0, u1, a2, a3]) (blk_put (cs' := #[u0, a1, a2, a3]) (hw h.out) 0 u0 rfl) 1 u1 rfl) 2 u2 rfl) 3 u3 rfl
theorem bp8 {t : Nat} {a0 a1 a2 a3 a4 a5 a6 a7 u0 u1 u2 u3 u4 u5 u6 u7 : Value} (h : Aside0 (W0.heap[g]? = some (.cells #[a0, a1, a2, a3, a4, a5, a6, a7] t (0, 0)))) (hw : W0.heap[g]? = some (.cells #[a0, a1, a2, a3, a4, a5, a6, a7] t (0, 0)) → W.heap[g]? = some (.cells #[a0, a1, a2, a3, a4, a5, a6, a7] t (0, 0)) := by (intro h_; (with_reducible repeat (first | refine blk_drewN ?_ _ | refine blk_drew ?_ | refine blk_alloc ?_ _ | refine blk_far ?_ (Aside0.out (by with_reducible assumption)) _)); exact h_)) : ((((((((W.setCell ⟨g, 0, none⟩ u0).setCell ⟨g, 1, none⟩ u1).setCell ⟨g, 2, none⟩ u2).setCell ⟨g, 3, none⟩ u3).setCell ⟨g, 4, none⟩ u4).setCell ⟨g, 5, none⟩ u5).setCell ⟨g, 6, none⟩ u6).setCell ⟨g, 7, none⟩ u7).heap[g]? = some (.cells #[u0, u1, u2, u3, u4, u5, u6, u7] t (0, 0)) := blk_put (cs' := #[u0, u1, u2, u3, u4, u5, u6, u7]) (blk_put (cs' := #[u0, u1, u2, u3, u4, u5, u6, a7]) (blk_put (cs' := #[u0, u1, u2, u3, u4, u5, a6, a7]) (blk_put (cs' := #[u0, u1, u2, u3, u4, a5, a6, a7]) (blk_put (cs' := #[u0, u1, u2, u3, a4, a5, a6, a7]) (blk_put (cs' := #[u0, u1, u2, a3, a4, a5, a6, a7]) (blk_put (cs' := #[u0, u1, a2, a3, a4, a5, a6, a7]) (blk_put (cs' := #[u0, a1, a2, a3, a4, a5, a6, a7]) (hw h.out) 0 u0 rfl) 1 u1 rfl) 2 u2 rfl) 3 u3 rfl) 4 u4 rfl) 5 u5 rfl) 6 u6 rfl) 7 u7 rfl
theorem moR (h : d.R e W base ok v xs) (hok : ∀ k, ok k → ok' k := by (intro _ hk; and_intros <;> first | exact hk | exact hk.1 | exact hk.2 | exact hk.1.1 | exact hk.1.2 | exact hk.2.1 | exact hk.2.2 | exact hk.1.1.1 | exact hk.1.1.2 | exact hk.1.2.1 | exact hk.1.2.2 | exact hk.2.1.1 | exact hk.2.1.2 | exact hk.2.2.1 | exact hk.2.2.2 | exact hk.1.1.1.1 | exact hk.1.1.1.2 | exact hk.1.1.2.1 | exact hk.1.1.2.2 | exact hk.1.2.1.1 | exact hk.1.2.1.2 | exact hk.1.2.2.1 | exact hk.1.2.2.2 | exact hk.2.1.1.1 | exact hk.2.1.1.2 | exact hk.2.1.2.1 | exact hk.2.1.2.2 | exact hk.2.2.1.1 | exact hk.2.2.1.2 | exact hk.2.2.2.1 | exact hk.2.2.2.2 | exact hk.1.1.1.1.1 | exact hk.1.1.1.1.2 | exact hk.1.1.1.2.1 | exact hk.1.1.1.2.2 | exact hk.1.1.2.1.1 | exact hk.1.1.2.1.2 | exact hk.1.1.2.2.1 | exact hk.1.1.2.2.2 | exact hk.1.2.1.1.1 | exact hk.1.2.1.1.2 | exact hk.1.2.1.2.1 | exact hk.1.2.1.2.2 | exact hk.1.2.2.1.1 | exact hk.1.2.2.1.2 | exact hk.1.2.2.2.1 | exact hk.1.2.2.2.2 | exact hk.2.1.1.1.1 | exact hk.2.1.1.1.2 | exact hk.2.1.1.2.1 | exact hk.2.1.1.2.2 | exact hk.2.1.2.1.1 | exact hk.2.1.2.1.2 | exact hk.2.1.2.2.1 | exact hk.2.1.2.2.2 | exact hk.2.2.1.1.1 | exact hk.2.2.1.1.2 | exact hk.2.2.1.2.1 | exact hk.2.2.1.2.2 | exact hk.2.2.2.1.1 | exact hk.2.2.2.1.2 | exact hk.2.2.2.2.1 | exact hk.2.2.2.2.2)) : d.R e W base ok' v xs := Kd.R_mono h hok
theorem bc2 {t : Nat} {a0 a1 : Value} (h : Aside0 (w.heap[g]? = some (.cells #[a0, a1] t (0, 0)))) : w.cell? ⟨g, 0, none⟩ = some a0 ∧ w.cell? ⟨g, 1, none⟩ = some a1 ∧ w.frozen? ⟨g, 0, none⟩ = false ∧ w.frozen? ⟨g, 1, none⟩ = false := ⟨(blk_cell h.out 0).trans rfl, (blk_cell h.out 1).trans rfl, blk_frozen h.out 0, blk_frozen h.out 1⟩
theorem bc3 {t : Nat} {a0 a1 a2 : Value} (h : Aside0 (w.heap[g]? = some (.cells #[a0, a1, a2] t (0, 0)))) : w.cell? ⟨g, 0, none⟩ = some a0 ∧ w.cell? ⟨g, 1, none⟩ = some a1 ∧ w.cell? ⟨g, 2, none⟩ = some a2 ∧ w.frozen? ⟨g, 0, none⟩ = false ∧ w.frozen? ⟨g, 1, none⟩ = false ∧ w.frozen? ⟨g, 2, none⟩ = false := ⟨(blk_cell h.out 0).trans rfl, (blk_cell h.out 1).trans rfl, (blk_cell h.out 2).trans rfl, blk_frozen h.out 0, blk_frozen h.out 1, blk_frozen h.out 2⟩
theorem bc4 {t : Nat} {a0 a1 a2 a3 : Value} (h : Aside0 (w.heap[g]? = some (.cells #[a0, a1, a2, a3] t (0, 0)))) : w.cell? ⟨g, 0, none⟩ = some a0 ∧ w.cell? ⟨g, 1, none⟩ = some a1 ∧ w.cell? ⟨g, 2, none⟩ = some a2 ∧ w.cell? ⟨g, 3, none⟩ = some a3 ∧ w.frozen? ⟨g, 0, none⟩ = false ∧ w.frozen? ⟨g, 1, none⟩ = false ∧ w.frozen? ⟨g, 2, none⟩ = false ∧ w.frozen? ⟨g, 3, none⟩ = false := ⟨(blk_cell h.out 0).trans rfl, (blk_cell h.out 1).trans rfl, (blk_cell h.out 2).trans rfl, (blk_cell h.out 3).trans rfl, blk_frozen h.out 0, blk_frozen h.out 1, blk_frozen h.out 2, blk_frozen h.out 3⟩
theorem bc6 {t : Nat} {a0 a1 a2 a3 a4 a5 : Value} (h : Aside0 (w.heap[g]? = some (.cells #[a0, a1, a2, a3, a4, a5] t (0, 0)))) : w.cell? ⟨g, 0, none⟩ = some a0 ∧ w.cell? ⟨g, 1, none⟩ = some a1 ∧ w.cell? ⟨g, 2, none⟩ = some a2 ∧ w.cell? ⟨g, 3, none⟩ = some a3 ∧ w.cell? ⟨g, 4, none⟩ = some a4 ∧ w.cell? ⟨g, 5, none⟩ = some a5 ∧ w.frozen? ⟨g, 0, none⟩ = false ∧ w.frozen? ⟨g, 1, none⟩ = false ∧ w.frozen? ⟨g, 2, none⟩ = false ∧ w.frozen? ⟨g, 3, none⟩ = false ∧ w.frozen? ⟨g, 4, none⟩ = false ∧ w.frozen? ⟨g, 5, none⟩ = false := ⟨(blk_cell h.out 0).trans rfl, (blk_cell h.out 1).trans rfl, (blk_cell h.out 2).trans rfl, (blk_cell h.out 3).trans rfl, (blk_cell h.out 4).trans rfl, (blk_cell h.out 5).trans rfl, blk_frozen h.out 0, blk_frozen h.out 1, blk_frozen h.out 2, blk_frozen h.out 3, blk_frozen h.out 4, blk_frozen h.out 5⟩
theorem bc8 {t : Nat} {a0 a1 a2 a3 a4 a5 a6 a7 : Value} (h : Aside0 (w.heap[g]? = some (.cells #[a0, a1, a2, a3, a4, a5, a6, a7] t (0, 0)))) : w.cell? ⟨g, 0, none⟩ = some a0 ∧ w.cell? ⟨g, 1, none⟩ = some a1 ∧ w.cell? ⟨g, 2, none⟩ = some a2 ∧ w.cell? ⟨g, 3, none⟩ = some a3 ∧ w.cell? ⟨g, 4, none⟩ = some a4 ∧ w.cell? ⟨g, 5, none⟩ = some a5 ∧ w.cell? ⟨g, 6, none⟩ = some a6 ∧ w.cell? ⟨g, 7, none⟩ = some a7 ∧ w.frozen? ⟨g, 0, none⟩ = false ∧ w.frozen? ⟨g, 1, none⟩ = false ∧ w.frozen? ⟨g, 2, none⟩ = false ∧ w.frozen? ⟨g, 3, none⟩ = false ∧ w.frozen? ⟨g, 4, none⟩ = false ∧ w.frozen? ⟨g, 5, none⟩ = false ∧ w.frozen? ⟨g, 6, none⟩ = false ∧ w.frozen? ⟨g, 7, none⟩ = false := ⟨(blk_cell h.out 0).trans rfl, (blk_cell h.out 1).trans rfl, (blk_cell h.out 2).trans rfl, (blk_cell h.out 3).trans rfl, (blk_cell h.out 4).trans rfl, (blk_cell h.out 5).trans rfl, (blk_cell h.out 6).trans rfl, (blk_cell h.out 7).trans rfl, blk_frozen h.out 0, blk_frozen h.out 1, blk_frozen h.out 2, blk_frozen h.out 3, blk_frozen h.out 4, blk_frozen h.out 5, blk_frozen h.out 6, blk_frozen h.out 7⟩
theorem bl4 {t : Nat} {a0 a1 a2 a3 : Value} (h : Aside0 (w.heap[g]? = some (.cells #[a0, a1, a2, a3] t (0, 0)))) : w.cell? ⟨g, 0, none⟩ = some a0 ∧ w.cell? ⟨g, 1, none⟩ = some a1 ∧ w.cell? ⟨g, 2, none⟩ = some a2 ∧ w.cell? ⟨g, 3, none⟩ = some a3 := ⟨(blk_cell h.out 0).trans rfl, (blk_cell h.out 1).trans rfl, (blk_cell h.out 2).trans rfl, (blk_cell h.out 3).trans rfl⟩
theorem bk4 {t : Nat} {a0 a1 a2 a3 : Value} (h : Aside0 (w.heap[g]? = some (.cells #[a0, a1, a2, a3] t (0, 0)))) {q : Prop} (hq : q) : w.cell? ⟨g, 0, none⟩ = some a0 ∧ w.cell? ⟨g, 1, none⟩ = some a1 ∧ w.cell? ⟨g, 2, none⟩ = some a2 ∧ w.cell? ⟨g, 3, none⟩ = some a3 ∧ q := ⟨(blk_cell h.out 0).trans rfl, (blk_cell h.out 1).trans rfl, (blk_cell h.out 2).trans rfl, (blk_cell h.out 3).trans rfl, hq⟩
theorem bl8 {t : Nat} {a0 a1 a2 a3 a4 a5 a6 a7 : Value} (h : Aside0 (w.heap[g]? = some (.cells #[a0, a1, a2, a3, a4, a5, a6, a7] t (0, 0)))) : w.cell? ⟨g, 0, none⟩ = some a0 ∧ w.cell? ⟨g, 1, none⟩ = some a1 ∧ w.cell? ⟨g, 2, none⟩ = some a2 ∧ w.cell? ⟨g, 3, none⟩ = some a3 ∧ w.cell? ⟨g, 4, none⟩ = some a4 ∧ w.cell? ⟨g, 5, none⟩ = some a5 ∧ w.cell? ⟨g, 6, none⟩ = some a6 ∧ w.cell? ⟨g, 7, none⟩ = some a7 := ⟨(blk_cell h.out 0).trans rfl, (blk_cell h.out 1).trans rfl, (blk_cell h.out 2).trans rfl, (blk_cell h.out 3).trans rfl, (blk_cell h.out 4).trans rfl, (blk_cell h.out 5).trans rfl, (blk_cell h.out 6).trans rfl, (blk_cell h.out 7).trans rfl⟩
theorem bk8 {t : Nat} {a0 a1 a2 a3 a4 a5 a6 a7 : Value} (h : Aside0 (w.heap[g]? = some (.cells #[a0, a1, a2, a3, a4, a5, a6, a7] t (0, 0)))) {q : Prop} (hq : q) : w.cell? ⟨g, 0, none⟩ = some a0 ∧ w.cell? ⟨g, 1, none⟩ = some a1 ∧ w.cell? ⟨g, 2, none⟩ = some a2 ∧ w.cell? ⟨g, 3, none⟩ = some a3 ∧ w.cell? ⟨g, 4, none⟩ = some a4 ∧ w.cell? ⟨g, 5, none⟩ = some a5 ∧ w.cell? ⟨g, 6, none⟩ = some a6 ∧ w.cell? ⟨g, 7, none⟩ = some a7 ∧ q := ⟨(blk_cell h.out 0).trans rfl, (blk_cell h.out 1).trans rfl, (blk_cell h.out 2).trans rfl, (blk_cell h.out 3).trans rfl, (blk_cell h.out 4).trans rfl, (blk_cell h.out 5).trans rfl, (blk_cell h.out 6).trans rfl, (blk_cell h.out 7).trans rfl, hq⟩
theorem gwS {gb : Nat} (hg : gb = W.heap.size) (h : Aside0 (Below w.heap.size w W0)) (hw : Below w.heap.size w W0 → Below w.heap.size w W := by (intro h_; repeat (first | (with_reducible first | exact h_ | apply below_alloc | apply pw_below_drewN | apply below_drew1 | refine below_set ?_ (Aside0.out (by with_reducible assumption))) | exact h_))) : Aside0 (w.heap.size ≤ gb) := ⟨by rw [hg]; exact below_size (hw h.out)⟩
theorem nbL {gb : Nat} (hg : gb = W.heap.size) (h : Aside0 (W0.heap[g]? = some o)) (hw : W0.heap[g]? = some o → W.heap[g]? = some o := by (intro h_; (with_reducible repeat (first | refine blk_drewN ?_ _ | refine blk_drew ?_ | refine blk_alloc ?_ _)); exact h_)) : Aside0 (g ≠ gb) := ⟨by rw [hg]; exact Nat.ne_of_lt (blk_lt (hw h.out))⟩
theorem nbG {gb : Nat} (hg : gb = W.heap.size) (h : Aside0 (W0.heap[g]? = some o)) (hw : W0.heap[g]? = some o → W.heap[g]? = some o := by (intro h_; (with_reducible repeat (first | refine blk_drewN ?_ _ | refine blk_drew ?_ | refine blk_alloc ?_ _)); exact h_)) : Aside0 (gb ≠ g) := ⟨by rw [hg]; exact Nat.ne_of_gt (blk_lt (hw h.out))⟩
end
/-! The law's own closure: whether a list has a number. -/
def acts_has.f (l0 : List Int) (x : Int) : Option Bool := some (l0.any (fun z => z == x))
theorem has_step (l : List Int) (x i : Int) (h0 : 0 ≤ i) (h : i < l.length) : (l.drop i.toNat).any (fun z => z == x) = (rd l i == x || (l.drop (i + 1).toNat).any (fun z => z == x)) := by
  obtain ⟨n, rfl⟩ : ∃ n : Nat, i = n := ⟨i.toNat, by omega⟩
  have hn : n < l.length := by omega
  have e : rd l (n : Int) = l[n] := by
    unfold rd
    rw [Int.toNat_natCast, List.getD_eq_getElem?_getD, List.getElem?_eq_getElem hn]
    rfl
  rw [e, Int.toNat_natCast, List.drop_eq_getElem_cons hn, List.any_cons, show ((n : Int) + 1).toNat = n + 1 by omega]
set_option maxHeartbeats 8000000 in
set_option maxRecDepth 100000 in
theorem acts_has.calls (g : Nat) (A0 : Option Addr) (c0 : Nat) (l0 : List Int) (x : Int) (r : Bool) (w : World) (hb : w.heap[g]? = some (.cells #[.int .u32 x] 22 (0, 0))) (hr0 : Kd.C (Kd.int .u32) w A0 l0.length l0) (hc0 : l0.length ≤ c0) (h : acts_has.f l0 x = some r) :
    Calls Try.prog 19 #[.slice A0 l0.length c0, .pointer (some ⟨g, 0, none⟩)] w fun e w' => e = .returned (.bool r) ∧ Below w.heap.size w w' := by
  have HR0 := Aside0.mk hr0
  have HC0 := Aside0.mk hc0
  have hm := Aside0.mk hr0.2.1
  clear hr0 hc0
  have hcell : w.cell? ⟨g, 0, none⟩ = some (.int .u32 x) := (blk_cell hb 0).trans rfl
  clear hb
  have H := Aside0.mk (Option.some.inj h)
  clear h
  go_enter Try.func19, Try.ntmps19
  go_wp2
  repeat (go_quiet (fail); try go_wp2)
  go_loopg [8] l0.length (fun kq v8 w' => ∃ (i_ : Int), v8 = .int .i64 i_ ∧ Aside0 (0 ≤ i_ ∧ i_ + kq = (l0.length : Int)) ∧ Aside0 ((l0.drop i_.toNat).any (fun z => z == x) = r) ∧ Drawn0 w w')
  case atStart => exact ⟨0, rfl, ⟨by omega, by omega⟩, ⟨H.out⟩, by repeat (first | exact Drawn0.refl _ | apply Drawn0.step)⟩
  case round =>
    clear H
    obtain ⟨i_, rfl, hi_, HA, ⟨m1, rfl⟩⟩ := hrel
    obtain ⟨hi0, hin⟩ := hi_.out
    clear hi_
    by_cases c4 : i_ < (l0.length : Int)
    · have c4b0 : decide (i_ < (l0.length : Int)) = true := decide_eq_true c4
      have hst := has_step l0 x i_ hi0 c4
      have hA := HA.out
      rw [hst] at hA
      clear hst HA
      have hwr : Aside0 (wrap64 (i_ + 1) = i_ + 1) := ⟨by have := hm.out; unfold wrap64; omega⟩
      obtain ⟨ad1, e1, hx1_0⟩ := Kd.at_int HR0.out i_ hi0 c4
      cases e1
      have Nq := Aside0.mk hin
      have p1 := eq_true hi0
      have q1 := eq_true c4
      clear hin hi0 c4
      by_cases c8 : rd l0 i_ = x
      · have c8b0 : (rd l0 i_ == x) = true := beq_iff_eq.mpr c8
        rw [c8b0, Bool.true_or] at hA
        subst hA
        clear c8
        go_wp2
        repeat (go_quiet (fail); try go_wp2)
        go_ret
        exact ⟨by first | rfl | (simp; done) | (simp [*]; done), (by repeat (first | exact Drawn0.refl _ | apply Drawn0.step) : Drawn0 w _).below⟩
      · have c8b0 : (rd l0 i_ == x) = false := beq_eq_false_iff_ne.mpr c8
        rw [c8b0, Bool.false_or] at hA
        have HA := Aside0.mk hA
        clear hA c8
        go_wp2
        repeat (go_quiet (fail); try go_wp2)
        go_roundg (gk - 1)
        case measure => have := Nq.out; have := of_eq_true q1; omega
        case rel => exact ⟨i_ + 1, by first | rfl | (rw [← hwr.out]; rfl) | (simp [hwr.out]; done), ⟨by have := of_eq_true p1; omega, by have := of_eq_true q1; have := Nq.out; omega⟩, HA, by repeat (first | exact Drawn0.refl _ | apply Drawn0.step)⟩
    · have c4b0 : decide (i_ < (l0.length : Int)) = false := decide_eq_false c4
      have hA := HA.out
      rw [List.drop_eq_nil_of_le (by omega)] at hA
      clear HA c4 hin hi0
      have hr : r = false := hA.symm
      clear hA
      subst hr
      go_wp2
      repeat (go_quiet (fail); try go_wp2)
      go_ret
      exact ⟨by first | rfl | (simp; done) | (simp [*]; done), (by repeat (first | exact Drawn0.refl _ | apply Drawn0.step) : Drawn0 w _).below⟩
section
variable {P : Program} {ops : Array Oper} {Q : Exit → Act → World → Prop}
/-- A call of a closure: what it caught comes behind the arguments. -/
theorem goesC_ {oi : Oper} {N : Option Tmp} {a : Act} {w : World} {K : Act → World → Prop} {f : FuncId} {fn : Func} {o : Operand} {as_ : Array Operand} {ts : Array TypeId} (fr : Array Value) (hf : P.funcs[f]? = some fn) (hname : (fn.name == "runtime.NumGoroutine") = false) (hb : fn.body.isSome = true) (args : Array Value)
    (hw : Region.wanted oi (yielded ops a.tmps) = true) (hN : oi.dst = N) (hop : oi.op = .call { callee := .value o, args := as_, argTypes := ts }) (ho : a.eval o = .func (.func f) #[] fr) (hargs : as_.map a.eval ++ fr = args)
    (h : Calls P f args w fun e w' => ∃ v, e = .returned v ∧ K (a.put N v) w') : if Region.wanted oi (yielded ops a.tmps) = true then Oper.wp P oi a w K Q else K (a.put N undef) w := by
  refine call_ f args hw hN ?_ h
  have he := enters_ hf hname hb args w
  unfold execOp
  simp [hop, resolve, Deferred.ofValue, invoke, ho, hargs, he]
end
end Go.Proofs.Ytgelpccjdndfoaa.P
namespace Go.Proofs.Ytgelpccjdndfoaa.P
open Go.RowKit Go.Proofs.YtgelpccjdndfoaaW.PrintWords Go.Proofs.YtgelpccjdndfoaaW.PrintLast Go.Proofs.YtgelpccjdndfoaaW.PrintMore
attribute [local go_sem] max2_int min2_int max_two min_two max_three min_three max_four min_four
/-! ### dragomanref03_Great: function 10 -/
def q1z.f (a0_0 : Int) (a0_1 : Int) (l0_2 : List Int) (l0_3 : List Int) (a0_4 : Int) (a0_5 : Int) (a0_6 : Int) (a0_7 : Int) : Option (Bool) := if (l0_2.length : Int) > 1000 then (some true) else (some (decide ((l0_3.length : Int) > 1000)))
set_option maxHeartbeats 8000000 in
set_option maxRecDepth 100000 in
theorem q1z.calls (a0_0 : Int) (a0_1 : Int) (A0_2 : Option Addr) (c0_2 : Nat) (l0_2 : List Int) (A0_3 : Option Addr) (c0_3 : Nat) (l0_3 : List Int) (a0_4 : Int) (a0_5 : Int) (a0_6 : Int) (a0_7 : Int) (r : Bool) (w : World) (hr0_2 : Kd.C (Kd.int .u32) w A0_2 l0_2.length l0_2) (hc0_2 : l0_2.length ≤ c0_2) (hr0_3 : Kd.C (Kd.int .u32) w A0_3 l0_3.length l0_3) (hc0_3 : l0_3.length ≤ c0_3) (h : q1z.f a0_0 a0_1 l0_2 l0_3 a0_4 a0_5 a0_6 a0_7 = some r) :
  Calls Try.prog 10 #[.agg #[.int .u32 a0_0, .int .i64 a0_1, .slice A0_2 l0_2.length c0_2, .slice A0_3 l0_3.length c0_3, .int .u32 a0_4, .int .u32 a0_5, .int .i64 a0_6, .int .u32 a0_7]] w fun e w' => e = .returned (.bool r) ∧ Below w.heap.size w w' := by
 have hu30 := Try.underlying30
 have HR0_2 := Aside0.mk hr0_2
 have HC0_2 := Aside0.mk hc0_2
 clear hr0_2 hc0_2
 have HR0_3 := Aside0.mk hr0_3
 have HC0_3 := Aside0.mk hc0_3
 clear hr0_3 hc0_3
 have HB := Aside0.mk (Below.refl w.heap.size w)
 have H : (if (l0_2.length : Int) > 1000 then (some true) else (some (decide ((l0_3.length : Int) > 1000)))) = some r := h
 clear h
 by_cases c2 : (l0_2.length : Int) > 1000
 ·
  rw [if_pos c2] at H
  have c2b0 : decide (1000 < (l0_2.length : Int)) = true := decide_eq_true c2
  have c2b1 : decide (1000 < l0_2.length) = true := decide_eq_true (by omega)
  clear c2
  obtain rfl := Option.some.inj H
  go_enter Try.func10, Try.ntmps10
  go_wp2_with (first | ((with_reducible refine gate_dst (N := 1) rfl ?_); (try (refine gate_guard (by rfl) ?_; dsimp only)); refine box_event ?hg (N := 1) ?hd (cs := #[.int .u32 a0_0, .int .i64 a0_1, .slice A0_2 l0_2.length c0_2, .slice A0_3 l0_3.length c0_3, .int .u32 a0_4, .int .u32 a0_5, .int .i64 a0_6, .int .u32 a0_7]) (t := 30) ?hr ?_; (case hd => rfl); (case hg => rfl); (case hr => first | (go_simp; done) | (go_simp; rfl)); intro gb1 hg w3 hbox hb; have BK1 := Aside0.mk (hbox); have GW1 := gwS hg HB; have GE1 := gwS hg HB; replace HB := hbS HB hb; clear hb hbox hg; obtain ⟨hcz4_0, hcz4_1, hcz4_2, hcz4_3, hcz4_4, hcz4_5, hcz4_6, hcz4_7, hfz4_0, hfz4_1, hfz4_2, hfz4_3, hfz4_4, hfz4_5, hfz4_6, hfz4_7⟩ := bc8 BK1))
  go_ret
  exact ⟨by first | rfl | (simp [errW_none, errW_some] <;> rfl) | (simp [*, errW_none, errW_some] <;> rfl), hbW HB⟩
 ·
  rw [if_neg c2] at H
  have c2b0 : decide (1000 < (l0_2.length : Int)) = false := decide_eq_false c2
  have c2b1 : decide (1000 < l0_2.length) = false := decide_eq_false (by omega)
  clear c2
  obtain rfl := Option.some.inj H
  go_enter Try.func10, Try.ntmps10
  go_wp2_with (first | ((with_reducible refine gate_dst (N := 1) rfl ?_); (try (refine gate_guard (by rfl) ?_; dsimp only)); refine box_event ?hg (N := 1) ?hd (cs := #[.int .u32 a0_0, .int .i64 a0_1, .slice A0_2 l0_2.length c0_2, .slice A0_3 l0_3.length c0_3, .int .u32 a0_4, .int .u32 a0_5, .int .i64 a0_6, .int .u32 a0_7]) (t := 30) ?hr ?_; (case hd => rfl); (case hg => rfl); (case hr => first | (go_simp; done) | (go_simp; rfl)); intro gb1 hg w5 hbox hb; have BK1 := Aside0.mk (hbox); have GW1 := gwS hg HB; have GE1 := gwS hg HB; replace HB := hbS HB hb; clear hb hbox hg; obtain ⟨hcz6_0, hcz6_1, hcz6_2, hcz6_3, hcz6_4, hcz6_5, hcz6_6, hcz6_7, hfz6_0, hfz6_1, hfz6_2, hfz6_3, hfz6_4, hfz6_5, hfz6_6, hfz6_7⟩ := bc8 BK1))
  go_ret
  exact ⟨by first | rfl | (simp [errW_none, errW_some] <;> rfl) | (simp [*, errW_none, errW_some] <;> rfl), hbW HB⟩

end Go.Proofs.Ytgelpccjdndfoaa.P
namespace Go.Proofs.Ytgelpccjdndfoaa.P
open Go.RowKit Go.Proofs.YtgelpccjdndfoaaW.PrintWords Go.Proofs.YtgelpccjdndfoaaW.PrintLast Go.Proofs.YtgelpccjdndfoaaW.PrintMore
/-! Does one of a list's elements pass? Asked one by one, to the first that does. -/
def anyM {α : Type} (p : α → Option Bool) : List α → Option Bool
  | [] => some false
  | x :: l => (p x).bind fun b => if b = true then some true else anyM p l
theorem anyM_some {α : Type} (p : α → Option Bool) (q : α → Bool) : ∀ l : List α, (∀ x ∈ l, p x = some (q x)) → anyM p l = some (l.any q)
  | [], _ => rfl
  | x :: l, h => by
    simp only [anyM, List.any_cons]
    rw [h x List.mem_cons_self, Option.bind_some]
    cases q x with
    | true => rfl
    | false => rw [if_neg (by decide), Bool.false_or]; exact anyM_some p q l (fun y hy => h y (List.mem_cons_of_mem _ hy))
/-- Where the first stands that passes. -/
def IdxAt {α : Type} (p : α → Option Bool) (l : List α) (i : Int) : Prop := (∃ j : Nat, i = (j : Int) ∧ ∃ h : j < l.length, p l[j] = some true ∧ ∀ m (hm : m < j), p (l[m]'(Nat.lt_trans hm h)) = some false) ∨ (i = -1 ∧ ∀ x ∈ l, p x = some false)
theorem anyM_false {α : Type} (p : α → Option Bool) : ∀ l : List α, (∀ x ∈ l, p x = some false) → anyM p l = some false
  | [], _ => rfl
  | x :: l, h => by
    simp only [anyM]
    rw [h x List.mem_cons_self, Option.bind_some, if_neg (by decide)]
    exact anyM_false p l (fun y hy => h y (List.mem_cons_of_mem _ hy))
theorem anyM_true {α : Type} (p : α → Option Bool) : ∀ (l : List α) (j : Nat) (h : j < l.length), p l[j] = some true → (∀ m (hm : m < j), p (l[m]'(Nat.lt_trans hm h)) = some false) → anyM p l = some true
  | x :: l, 0, h, ht, _ => by
    simp only [List.getElem_cons_zero] at ht
    simp only [anyM]
    rw [ht, Option.bind_some, if_pos rfl]
  | x :: l, j + 1, h, ht, hf => by
    simp only [List.getElem_cons_succ] at ht
    have h0 := hf 0 (Nat.succ_pos _)
    simp only [List.getElem_cons_zero] at h0
    simp only [anyM]
    rw [h0, Option.bind_some, if_neg (by decide)]
    refine anyM_true p l j (by simpa using h) ht (fun m hm => ?_)
    have := hf (m + 1) (by omega)
    simpa using this
theorem idxAt_any {α : Type} {p : α → Option Bool} {l : List α} {i : Int} (h : IdxAt p l i) : anyM p l = some (decide (i ≥ 0)) := by
  rcases h with ⟨j, rfl, hj, h1, h2⟩ | ⟨rfl, h⟩
  · rw [anyM_true p l j hj h1 h2, decide_eq_true (by omega)]
  · rw [anyM_false p l h]; rfl
/-- What IndexFunc hands back. -/
def IdxPost {α : Type} (p : α → Option Bool) (l : List α) (w : World) (e : Ending) (w' : World) : Prop := ∃ i : Int, e = .returned (.int .i64 i) ∧ IdxAt p l i ∧ Below w.heap.size w w'
/-! slices.ContainsFunc at one type of elements, whatever the closure. -/
/-- What is asked of the closure. -/
def u32_pred (g : Nat) (lb : Array Value) (p : Int → Option Bool) (l : List Int) (w : World) : Prop :=
  ∀ x ∈ l, ∀ b, p x = some b → ∀ (W : World), Below w.heap.size w W → Calls Try.prog g (#[.int .u32 x] ++ lb) W fun e w' => e = .returned (.bool b) ∧ Below W.heap.size W w'
theorem u32_get (l : List Int) (k : Nat) (h : k < l.length) : rd l (k : Int) = l[k] := by
  unfold rd
  rw [Int.toNat_natCast, List.getD_eq_getElem?_getD, List.getElem?_eq_getElem h]
  rfl
set_option maxHeartbeats 1000000 in
theorem u32_index (p : Int → Option Bool) (g : Nat) (lb : Array Value) (eg : ∀ args w, (callFunc g args).run Try.prog w = .ok (.enter g args) w) (A0 : Option Addr) (c0 : Nat) (l0 : List Int) (r : Bool) (w : World) (hr0 : Kd.C (Kd.int .u32) w A0 l0.length l0) (hl : l0.length ≤ 9223372036854775807) (hp : u32_pred g lb p l0 w) (h : anyM p l0 = some r) :
    Calls Try.prog 44 #[.slice A0 l0.length c0, .func (.func g) #[] lb] w (IdxPost p l0 w) := by
  have HR := Go.Lib.hid hr0
  have HP := Go.Lib.hid hp
  have H0 := Go.Lib.hid h
  clear hr0 hp h
  go_enter Try.func44, Try.ntmps44
  go_wp2
  go_loopw [8] (fun i wr => ∃ k : Nat, k ≤ l0.length ∧ i = .int .i64 k ∧ Hid (anyM p (l0.drop k) = some r ∧ ∀ m (hm : m < l0.length), m < k → p l0[m] = some false) ∧ Hid (Below w.heap.size w wr)) (fun i _ => l0.length - (intOf i).toNat)
  case atStart => exact ⟨0, Nat.zero_le _, rfl, Go.Lib.hid ⟨H0.out, fun m _ hm => absurd hm (Nat.not_lt_zero m)⟩, Go.Lib.hid (Below.refl _ _)⟩
  case round =>
    obtain ⟨k, hk, rfl, HN, HBb⟩ := hrel
    by_cases hlt : k < l0.length
    · obtain ⟨ad, e0, h0⟩ := Kd.at_int (Kd.C_below HR.out HBb.out) (k : Int) (by omega) (by omega)
      have hmem : l0[k] ∈ l0 := List.getElem_mem hlt
      have hx : rd l0 (k : Int) = l0[k] := u32_get l0 k hlt
      have hn := HN.out.1
      have HLK := Go.Lib.hid (show ∀ b, p l0[k] = some b → p l0[k] = some b from fun b h => h)
      rw [List.drop_eq_getElem_cons hlt] at hn
      simp only [anyM] at hn
      simp only [Int.toNat_natCast] at h0
      rw [hx] at h0 
      obtain ⟨x, hxe⟩ : ∃ x, x = l0[k] := ⟨_, rfl⟩
      rw [← hxe] at hmem hn hx h0 
      have HXE := Go.Lib.hid hxe
      clear hx hxe HLK
      cases e0
      obtain ⟨b, hb1, hb2⟩ := Option.bind_eq_some_iff.mp hn
      clear hn
      have HB1 := Go.Lib.hid hb1
      have HCL := Go.Lib.hid (HP.out x hmem b hb1 wr HBb.out )
      clear hb1 hmem 
      cases b with
      | true =>
        clear hb2
        go_wp2_with (go_at_fn g; refine (HCL.out).mono ?_; rintro e w' ⟨rfl, hb'⟩)
        go_ret
        exact ⟨k, rfl, .inl ⟨k, rfl, hlt, by rw [← HXE.out]; exact HB1.out, fun m hm => HN.out.2 m _ hm⟩, HBb.out.trans (hb'.mono HBb.out.size)⟩
      | false =>
        have HB2 := Go.Lib.hid hb2
        clear hb2
        go_wp2_with (go_at_fn g; refine (HCL.out).mono ?_; rintro e w' ⟨rfl, hb'⟩)
        go_roundw
        case rel =>
          exact ⟨k + 1, by omega, by go_num, Go.Lib.hid ⟨by have := HB2.out; rw [if_neg (by decide)] at this; exact this, fun m hm hmk => (Nat.lt_succ_iff_lt_or_eq.1 hmk).elim (fun h => HN.out.2 m hm h) (fun h => by subst h; rw [← HXE.out]; exact HB1.out)⟩, Go.Lib.hid (HBb.out.trans (hb'.mono HBb.out.size))⟩
        case measure => simp [intOf]; omega
    · go_wp2
      go_ret
      exact ⟨-1, rfl, .inr ⟨rfl, fun x hx => by
        obtain ⟨m, hm, rfl⟩ := List.getElem_of_mem hx
        exact HN.out.2 m hm (by omega)⟩, HBb.out⟩
theorem u32_contains (p : Int → Option Bool) (g : Nat) (lb : Array Value) (eg : ∀ args w, (callFunc g args).run Try.prog w = .ok (.enter g args) w) (A0 : Option Addr) (c0 : Nat) (l0 : List Int) (r : Bool) (w : World) (hr0 : Kd.C (Kd.int .u32) w A0 l0.length l0) (hl : l0.length ≤ 9223372036854775807) (hp : u32_pred g lb p l0 w) (h : anyM p l0 = some r) :
    Calls Try.prog 65 #[.slice A0 l0.length c0, .func (.func g) #[] lb] w fun e w' => e = .returned (.bool r) ∧ Below w.heap.size w w' := by
  have HCON := Go.Lib.hid (u32_index p g lb eg A0 c0 l0 r w hr0 hl hp h)
  have H0 := Go.Lib.hid h
  clear hr0 hp h eg
  go_enter Try.func65, Try.ntmps65
  go_wp2_with (first | (go_at_call 44; refine HCON.out.mono ?_; rintro e w' ⟨i, rfl, hi, hb⟩; have HI := Go.Lib.hid (Option.some.inj ((idxAt_any hi).symm.trans H0.out)); clear hi))
  go_ret
  exact ⟨by rw [← HI.out]; rfl, hb⟩
/-! slices.DeleteFunc at uint32, on a row of the call's own, whatever the closure. -/
/-- What is left of a list: what doesn't pass. -/
def keepM {α : Type} (p : α → Option Bool) : List α → Option (List α)
  | [] => some []
  | x :: l => (p x).bind fun b => (keepM p l).map fun r => if b = true then r else x :: r
theorem keepM_some {α : Type} (p : α → Option Bool) (q : α → Bool) : ∀ l : List α, (∀ x ∈ l, p x = some (q x)) → keepM p l = some (l.filter fun x => !q x)
  | [], _ => rfl
  | x :: l, h => by
    simp only [keepM]
    rw [h x List.mem_cons_self, Option.bind_some, keepM_some p q l (fun y hy => h y (List.mem_cons_of_mem _ hy)), Option.map_some, List.filter_cons]
    cases q x <;> rfl
theorem keepM_def {α : Type} (p : α → Option Bool) : ∀ (l r : List α), keepM p l = some r → ∀ x ∈ l, ∃ b, p x = some b
  | [], _, _, x, hx => (List.not_mem_nil hx).elim
  | y :: l, r, h, x, hx => by
    simp only [keepM] at h
    obtain ⟨b, h1, h2⟩ := Option.bind_eq_some_iff.mp h
    obtain ⟨r', h3, _⟩ := Option.map_eq_some_iff.1 h2
    rcases List.mem_cons.1 hx with rfl | hx
    · exact ⟨b, h1⟩
    · exact keepM_def p l r' h3 x hx
theorem keepM_snoc {α : Type} (p : α → Option Bool) : ∀ (l r : List α) (x : α) (b : Bool), keepM p l = some r → p x = some b → keepM p (l ++ [x]) = some (if b = true then r else r ++ [x])
  | [], r, x, b, h, hx => by
    have hr : [] = r := Option.some.inj h
    subst hr
    simp only [List.nil_append, keepM, hx, Option.bind_some, Option.map_some]
  | y :: l, r, x, b, h, hx => by
    simp only [keepM] at h
    obtain ⟨b', h1, h2⟩ := Option.bind_eq_some_iff.mp h
    obtain ⟨r', h3, h4⟩ := Option.map_eq_some_iff.1 h2
    simp only [List.cons_append, keepM]
    rw [h1, Option.bind_some, keepM_snoc p l r' x b h3 hx, Option.map_some, ← h4]
    cases b <;> cases b' <;> rfl
theorem keepM_all {α : Type} (p : α → Option Bool) : ∀ l : List α, (∀ x ∈ l, p x = some false) → keepM p l = some l
  | [], _ => rfl
  | x :: l, h => by
    simp only [keepM]
    rw [h x List.mem_cons_self, Option.bind_some, keepM_all p l (fun y hy => h y (List.mem_cons_of_mem _ hy)), Option.map_some]
    rfl
theorem anyM_def {α : Type} (p : α → Option Bool) : ∀ l : List α, (∀ x ∈ l, ∃ b, p x = some b) → ∃ r, anyM p l = some r
  | [], _ => ⟨false, rfl⟩
  | x :: l, h => by
    obtain ⟨b, hb⟩ := h x List.mem_cons_self
    obtain ⟨r, hr⟩ := anyM_def p l (fun y hy => h y (List.mem_cons_of_mem _ hy))
    simp only [anyM]
    rw [hb, Option.bind_some]
    cases b with
    | true => exact ⟨true, rfl⟩
    | false => exact ⟨r, by rw [if_neg (by decide)]; exact hr⟩
/-- Zeros behind place k: what stands ahead of it stays. -/
theorem R_zeros_tail {e : Nat} {base g n cap : Nat} {ok : Nat → Prop} : ∀ (m k : Nat) (xs : List Int) (W : World), k + m ≤ n → Kd.R (Kd.int .u32) e W base ok (.slice (some ⟨g, 0, none⟩) n cap) xs →
    ∃ ys : List Int, ys.take k = xs.take k ∧ Kd.R (Kd.int .u32) e (W.setCells g k (List.replicate m (.int .u32 0))) base ok (.slice (some ⟨g, 0, none⟩) n cap) ys ∧ W.grownBy (W.setCells g k (List.replicate m (.int .u32 0))) (some g)
  | 0, k, xs, W, _, h => ⟨xs, rfl, h, by have := Kd.R_putg h (k : Int) (xs.getD k 0); exact World.grownBy.refl _ _⟩
  | m + 1, k, xs, W, hk, h => by
    have hp := Kd.R_putg h (k : Int) 0
    rw [Int.toNat_natCast] at hp
    obtain ⟨ys, h1, h2, h3⟩ := R_zeros_tail m (k + 1) (xs.set k 0) _ (by omega) hp.1
    refine ⟨ys, ?_, h2, World.grownBy.trans hp.2 h3⟩
    have := congrArg (List.take k) h1
    rw [List.take_take, List.take_take, Nat.min_eq_left (Nat.le_succ k)] at this
    rw [this, List.take_set_of_le (Nat.le_refl k)]
set_option maxHeartbeats 4000000 in
theorem delete_u32 (p : Int → Option Bool) (g : Nat) (lb : Array Value) (eg : ∀ args w, (callFunc g args).run Try.prog w = .ok (.enter g args) w) (P0_ : Nat → Prop) (u : Value) (l0 r : List Int) (w0 w : World) (hB : Below w0.heap.size w0 w) (ho0 : Kd.R (Kd.int .u32) 22 w w0.heap.size P0_ u l0)
    (hp : ∀ W, Below w0.heap.size w0 W → Kept w W P0_ → ∀ x ∈ l0, ∀ b, p x = some b → Calls Try.prog g (#[.int .u32 x] ++ lb) W fun e w' => e = .returned (.bool b) ∧ Below W.heap.size W w') (h : keepM p l0 = some r) :
    Calls Try.prog 29 #[u, .func (.func g) #[] lb] w fun e w' => ∃ v0_ : Value, e = .returned v0_ ∧ Kd.R (Kd.int .u32) 22 w' w0.heap.size (fun k_ => (P0_ k_ ∨ w.heap.size ≤ k_)) v0_ r ∧ Below w0.heap.size w0 w' ∧ Kept w w' (fun k_ => P0_ k_) := by
  obtain ⟨A, c, e⟩ := Kd.R_slice ho0
  subst e
  obtain ⟨_, hlc, hC0⟩ := Kd.R_reads' ho0
  obtain ⟨r1, hr1⟩ := anyM_def p l0 (keepM_def p l0 r h)
  have hl : l0.length ≤ 9223372036854775807 := hC0.2.1
  have HIX := Go.Lib.hid (u32_index p g lb eg A c l0 r1 w hC0 hl (fun x hx b hb W hW => hp W (hB.trans (hW.mono hB.size)) (Kept.of_below hW _) x hx b hb) hr1)
  have HO0 := Go.Lib.hid ho0
  have HP := Go.Lib.hid hp
  have HK := Go.Lib.hid h
  have HB0 := Go.Lib.hid hB
  clear ho0 hp h hr1 hC0 hB
  go_enter Try.func29, Try.ntmps29
  go_upto_region 2 with (first | (go_at_call 44; refine (HIX.out).mono ?_; rintro e w1 ⟨i, rfl, hi, hb1⟩; have HI := Go.Lib.hid hi; have HB1 := Go.Lib.hid hb1; clear hi hb1))
  rcases HI.out with ⟨j, rfl, hj, ht, hf⟩ | ⟨rfl, hall⟩
  · have HT := Go.Lib.hid ht
    have HF := Go.Lib.hid hf
    clear ht hf HI
    have hne1 : ((j : Int) == -1) = false := beq_eq_false_iff_ne.2 (by omega)
    obtain ⟨g0, cap, eo, gb, gl, cells, hg0⟩ := Kd.R_form HO0.out (by omega)
    injection eo with ea en ec
    subst ea
    subst ec
    clear en hg0
    have HP0 := Go.Lib.hid (HO0.out.1 g0 rfl)
    have hstart : keepM p (l0.take (j + 1)) = some (l0.take j) := by
      rw [← List.take_append_getElem hj, keepM_snoc p (l0.take j) (l0.take j) l0[j] true (keepM_all p _ (fun x hx => by
        obtain ⟨m, hm, rfl⟩ := List.getElem_of_mem hx
        rw [List.length_take] at hm
        rw [List.getElem_take]
        exact HF.out m (by omega))) HT.out, if_pos rfl]
    have HS := Go.Lib.hid hstart
    clear hstart
    have GB := Go.Lib.hid gb
    clear gb gl
    go_wp2
    go_loopg [5, 6, 7] l0.length (fun gg v5 v6 _ wr => ∃ (i j : Nat) (xs : List Int), v5 = .int .i64 (i : Int) ∧ v6 = .int .i64 (j : Int) ∧ i < j ∧ j ≤ l0.length ∧ l0.length - j ≤ gg ∧ xs.length = l0.length ∧ Hid (keepM p (l0.take j) = some (xs.take i) ∧ xs.drop j = l0.drop j) ∧ Hid (Kd.R (Kd.int .u32) 22 wr w0.heap.size P0_ (.slice (some ⟨g0, 0, none⟩) l0.length c) xs) ∧ Hid (Below w0.heap.size w0 wr) ∧ Hid (Kept w wr P0_))
    case atStart => exact ⟨j, j + 1, l0, rfl, by go_num, by omega, by omega, by omega, rfl, Go.Lib.hid ⟨HS.out, rfl⟩, Go.Lib.hid (Kd.R_below HO0.out HB1.out), Go.Lib.hid (HB0.out.trans (HB1.out.mono HB0.out.size)), Go.Lib.hid (Kept.of_below HB1.out _)⟩
    case round =>
      clear hne1
      obtain ⟨i, k, xs, rfl, rfl, hik, hkl, hgg, hxl, HX, HO, HB, HKp⟩ := hrel
      by_cases hlt : k < l0.length
      · have hx1 : xs[k]? = some l0[k] := by
          have := congrArg (fun l => l[0]?) HX.out.2
          simp only [List.getElem?_drop, Nat.add_zero] at this
          rw [this, List.getElem?_eq_getElem hlt]
        have hrd : rdOf (0 : Int) xs (k : Int) = l0[k] := by
          unfold rdOf
          rw [Int.toNat_natCast, List.getD_eq_getElem?_getD, hx1]
          rfl
        obtain ⟨hc1, hf1⟩ := Kd.R_celln 0 HO.out (k : Int) (by omega) (by omega)
        rw [hrd] at hc1
        obtain ⟨b, hb⟩ := keepM_def p l0 r HK.out l0[k] (List.getElem_mem hlt)
        have hsn := keepM_snoc p _ _ _ b HX.out.1 hb
        rw [List.take_append_getElem hlt] at hsn
        have HSN := Go.Lib.hid hsn
        have HCL := Go.Lib.hid (HP.out wr HB.out HKp.out l0[k] (List.getElem_mem hlt) b hb)
        clear hx1 hrd hb hsn
        obtain ⟨hc2, hf2⟩ := Kd.R_celln 0 HO.out (i : Int) (by omega) (by omega)
        simp only [Int.toNat_natCast] at hc1 hf1 hc2 hf2
        obtain ⟨x, hxe⟩ : ∃ x, x = l0[k] := ⟨_, rfl⟩
        rw [← hxe] at hc1 HCL HSN
        clear hxe
        cases b with
        | false =>
          have HP28 := Go.Lib.hid (fun (W : World) (hW : Below wr.heap.size wr W) => Kd.R_putg (Kd.R_below HO.out hW) (i : Int) x)
          go_wp2_with (first | (go_at_fn g; refine (HCL.out).mono ?_; rintro e w2 ⟨rfl, hb2⟩; have HB2 := Go.Lib.hid hb2; have hc3 : w2.cell? ⟨g0, i, none⟩ = _ := (hb2.cell (p := ⟨g0, i, none⟩) (Kd.R_lt HO.out g0 rfl)).trans hc2; have hf3 : w2.frozen? ⟨g0, i, none⟩ = false := (hb2.frozen (p := ⟨g0, i, none⟩) (Kd.R_lt HO.out g0 rfl)).trans hf2; clear hb2))
          go_roundg (l0.length - (k + 1))
          case measure => omega
          case rel =>
            have hset : (xs.set i x).take (i + 1) = xs.take i ++ [x] := by
              rw [← List.take_append_getElem (show i < (xs.set i x).length by rw [List.length_set]; omega), List.take_set_of_le (Nat.le_refl i), List.getElem_set_self]
            have hdr : (xs.set i x).drop (k + 1) = l0.drop (k + 1) := by
              rw [List.drop_set_of_lt (by omega)]
              have := congrArg List.tail HX.out.2
              rwa [List.tail_drop, List.tail_drop] at this
            have hp8 := (HP28.out _ HB2.out).1
            rw [Int.toNat_natCast] at hp8
            exact ⟨i + 1, k + 1, xs.set i x, by go_num, by go_num, by omega, by omega, by omega, by rw [List.length_set]; exact hxl, Go.Lib.hid ⟨by have := HSN.out; rw [if_neg (by decide)] at this; rw [hset]; exact this, hdr⟩, Go.Lib.hid hp8, Go.Lib.hid (below_set (HB.out.trans (HB2.out.mono HB.out.size)) GB.out), Go.Lib.hid ((HKp.out.below HB2.out).setCell (.inl HP0.out) _)⟩
        | true =>
          go_wp2_with (first | (go_at_fn g; refine (HCL.out).mono ?_; rintro e w2 ⟨rfl, hb2⟩; have HB2 := Go.Lib.hid hb2; clear hb2))
          go_roundg (l0.length - (k + 1))
          case measure => omega
          case rel => exact ⟨i, k + 1, xs, rfl, by go_num, by omega, by omega, by omega, hxl, Go.Lib.hid ⟨by have := HSN.out; simpa using this, by have := congrArg List.tail HX.out.2; rwa [List.tail_drop, List.tail_drop] at this⟩, Go.Lib.hid (Kd.R_below HO.out HB2.out), Go.Lib.hid (HB.out.trans (HB2.out.mono HB.out.size)), Go.Lib.hid (HKp.out.below HB2.out)⟩
      · have hkn : k = l0.length := by omega
        subst hkn
        obtain ⟨i0, hi0, _, hsz, _⟩ := info_parts info22
        have hcf := cut_from (P := Try.prog) 23 22 .i64 Try.underlying23 hi0 1 hsz (some ⟨g0, 0, none⟩) l0.length c (i : Int) (by omega) (by omega)
        have hci : ∀ W : World, (Instr.slice 23 (.slice (some ⟨g0, 0, none⟩) l0.length c) (some (.int .i64 (i : Int))) none none).run Try.prog W = .ok (.slice (some ⟨g0, i, none⟩) (l0.length - i) (c - i)) W := fun W => by
          have := hcf W
          rw [Int.toNat_natCast, if_neg (by omega)] at this
          rw [this]
          simp [Addr.add]
          omega
        have hct : ∀ W : World, (Instr.slice 23 (.slice (some ⟨g0, 0, none⟩) l0.length c) none (some (.int .i64 (i : Int))) none).run Try.prog W = .ok (.slice (some ⟨g0, 0, none⟩) i c) W := fun W => by
          have := cut_to (P := Try.prog) 23 22 .i64 Try.underlying23 hi0 (some ⟨g0, 0, none⟩) l0.length c (i : Int) (by omega) (by omega) hlc W
          rwa [Int.toNat_natCast] at this
        have hclr : ∀ ty, (Builtin.clear_ #[23] ty #[.slice (some ⟨g0, i, none⟩) (l0.length - i) (c - i)]).run Try.prog wr = .ok (.tuple #[]) (wr.setCells g0 i (List.replicate (l0.length - i) (.int .u32 0))) := fun ty =>
          Lib.run_clear_slice wr _ _ ty _ Try.underlying23 Try.zeroValue22 rfl rfl g0 i _ _ (by omega)
            (fun t ht => by have := (Kd.R_celln 0 HO.out ((i + t : Nat) : Int) (by omega) (by omega)).1; rw [Int.toNat_natCast] at this; rw [this]; rfl)
            (fun t ht => by have := (Kd.R_celln 0 HO.out ((i + t : Nat) : Int) (by omega) (by omega)).2; rwa [Int.toNat_natCast] at this)
        obtain ⟨ys, hys, hRy, hGy⟩ := R_zeros_tail (l0.length - i) i xs wr (by omega) HO.out
        have hxr : xs.take i = r := by
          have := HX.out.1
          rw [List.take_length] at this
          exact Option.some.inj (this.symm.trans HK.out)
        have HFIN := Go.Lib.hid (show Kd.R (Kd.int .u32) 22 (wr.setCells g0 i (List.replicate (l0.length - i) (.int .u32 0))) w0.heap.size P0_ (.slice (some ⟨g0, 0, none⟩) i c) r by
          have := Kd.R_take (m := i) hRy (by
            have h1 := congrArg List.length hys
            rw [List.length_take, List.length_take] at h1
            omega)
          rwa [hys, hxr] at this)
        have HGR := Go.Lib.hid hGy
        clear hys hRy hGy hxr hcf hi0 hsz
        go_wp2
        go_ret
        exact ⟨_, rfl, Kd.R_mono HFIN.out (fun k hk => .inl hk), HB.out.grown HGR.out HB.out.size (fun k hk => by injection hk with hk; rw [← hk]; exact GB.out), HKp.out.of_grown HGR.out (fun k hk => by injection hk with hk; rw [← hk]; exact .inl HP0.out)⟩
  · have HA := Go.Lib.hid hall
    clear hall HI
    go_wp2
    go_ret
    have hr : r = l0 := Option.some.inj (HK.out.symm.trans (keepM_all p l0 HA.out))
    exact ⟨_, rfl, by rw [hr]; exact Kd.R_mono (Kd.R_below HO0.out HB1.out) (fun k hk => .inl hk), HB0.out.trans (HB1.out.mono HB0.out.size), Kept.of_below HB1.out _⟩
/-! slices.ContainsFunc at one type of elements, whatever the closure. -/
/-- What is asked of the closure. -/
def box_pred (g : Nat) (lb : Array Value) (p : S50 → Option Bool) (l : List S50) (w : World) : Prop :=
  ∀ x ∈ l, ∀ b, p x = some b → ∀ (W : World), Below w.heap.size w W → Calls Try.prog g (#[.agg #[.int .u32 x.f0, .int .u32 x.f1]] ++ lb) W fun e w' => e = .returned (.bool b) ∧ Below W.heap.size W w'
theorem box_get (l : List S50) (k : Nat) (h : k < l.length) : rd_T50 l (k : Int) = l[k] := by
  unfold rd_T50
  rw [Int.toNat_natCast, List.getD_eq_getElem?_getD, List.getElem?_eq_getElem h]
  rfl
set_option maxHeartbeats 1000000 in
theorem box_index (p : S50 → Option Bool) (g : Nat) (lb : Array Value) (eg : ∀ args w, (callFunc g args).run Try.prog w = .ok (.enter g args) w) (A0 : Option Addr) (c0 : Nat) (l0 : List S50) (r : Bool) (w : World) (hr0 : Kd.C k50 w A0 l0.length l0) (hl : l0.length ≤ 9223372036854775807) (hp : box_pred g lb p l0 w) (h : anyM p l0 = some r) :
    Calls Try.prog 64 #[.slice A0 l0.length c0, .func (.func g) #[] lb] w (IdxPost p l0 w) := by
  have hu50 := Try.underlying50
  have HR := Go.Lib.hid hr0
  have HP := Go.Lib.hid hp
  have H0 := Go.Lib.hid h
  clear hr0 hp h
  go_enter Try.func64, Try.ntmps64
  go_wp2
  go_loopw [8] (fun i wr => ∃ k : Nat, k ≤ l0.length ∧ i = .int .i64 k ∧ Hid (anyM p (l0.drop k) = some r ∧ ∀ m (hm : m < l0.length), m < k → p l0[m] = some false) ∧ Hid (Below w.heap.size w wr)) (fun i _ => l0.length - (intOf i).toNat)
  case atStart => exact ⟨0, Nat.zero_le _, rfl, Go.Lib.hid ⟨H0.out, fun m _ hm => absurd hm (Nat.not_lt_zero m)⟩, Go.Lib.hid (Below.refl _ _)⟩
  case round =>
    obtain ⟨k, hk, rfl, HN, HBb⟩ := hrel
    by_cases hlt : k < l0.length
    · obtain ⟨ad, e0, h0, h1⟩ := at_T50 (Kd.C_below HR.out HBb.out) (k : Int) (by omega) (by omega)
      have hmem : l0[k] ∈ l0 := List.getElem_mem hlt
      have hx : rd_T50 l0 (k : Int) = l0[k] := box_get l0 k hlt
      have hn := HN.out.1
      have HLK := Go.Lib.hid (show ∀ b, p l0[k] = some b → p l0[k] = some b from fun b h => h)
      rw [List.drop_eq_getElem_cons hlt] at hn
      simp only [anyM] at hn
      simp only [Int.toNat_natCast] at h0 h1
      rw [hx] at h0 h1 
      obtain ⟨x, hxe⟩ : ∃ x, x = l0[k] := ⟨_, rfl⟩
      rw [← hxe] at hmem hn hx h0 h1 
      have HXE := Go.Lib.hid hxe
      clear hx hxe HLK
      cases e0
      obtain ⟨b, hb1, hb2⟩ := Option.bind_eq_some_iff.mp hn
      clear hn
      have HB1 := Go.Lib.hid hb1
      have HCL := Go.Lib.hid (HP.out x hmem b hb1 wr HBb.out )
      clear hb1 hmem 
      cases b with
      | true =>
        clear hb2
        go_wp2_with (go_at_fn g; refine (HCL.out).mono ?_; rintro e w' ⟨rfl, hb'⟩)
        go_ret
        exact ⟨k, rfl, .inl ⟨k, rfl, hlt, by rw [← HXE.out]; exact HB1.out, fun m hm => HN.out.2 m _ hm⟩, HBb.out.trans (hb'.mono HBb.out.size)⟩
      | false =>
        have HB2 := Go.Lib.hid hb2
        clear hb2
        go_wp2_with (go_at_fn g; refine (HCL.out).mono ?_; rintro e w' ⟨rfl, hb'⟩)
        go_roundw
        case rel =>
          exact ⟨k + 1, by omega, by go_num, Go.Lib.hid ⟨by have := HB2.out; rw [if_neg (by decide)] at this; exact this, fun m hm hmk => (Nat.lt_succ_iff_lt_or_eq.1 hmk).elim (fun h => HN.out.2 m hm h) (fun h => by subst h; rw [← HXE.out]; exact HB1.out)⟩, Go.Lib.hid (HBb.out.trans (hb'.mono HBb.out.size))⟩
        case measure => simp [intOf]; omega
    · go_wp2
      go_ret
      exact ⟨-1, rfl, .inr ⟨rfl, fun x hx => by
        obtain ⟨m, hm, rfl⟩ := List.getElem_of_mem hx
        exact HN.out.2 m hm (by omega)⟩, HBb.out⟩
theorem box_contains (p : S50 → Option Bool) (g : Nat) (lb : Array Value) (eg : ∀ args w, (callFunc g args).run Try.prog w = .ok (.enter g args) w) (A0 : Option Addr) (c0 : Nat) (l0 : List S50) (r : Bool) (w : World) (hr0 : Kd.C k50 w A0 l0.length l0) (hl : l0.length ≤ 9223372036854775807) (hp : box_pred g lb p l0 w) (h : anyM p l0 = some r) :
    Calls Try.prog 47 #[.slice A0 l0.length c0, .func (.func g) #[] lb] w fun e w' => e = .returned (.bool r) ∧ Below w.heap.size w w' := by
  have HCON := Go.Lib.hid (box_index p g lb eg A0 c0 l0 r w hr0 hl hp h)
  have H0 := Go.Lib.hid h
  clear hr0 hp h eg
  go_enter Try.func47, Try.ntmps47
  go_wp2_with (first | (go_at_call 64; refine HCON.out.mono ?_; rintro e w' ⟨i, rfl, hi, hb⟩; have HI := Go.Lib.hid (Option.some.inj ((idxAt_any hi).symm.trans H0.out)); clear hi))
  go_ret
  exact ⟨by rw [← HI.out]; rfl, hb⟩
end Go.Proofs.Ytgelpccjdndfoaa.P
namespace Go.Proofs.Ytgelpccjdndfoaa.P
open Ieee
/-! Small whole numbers as floats of 64 bits: what they read as, how they stand to each other, what a difference's sign is. -/
/-- The float of a number below 65536. -/
def F (n : Nat) : Nat := FloatKind.f64.nearest (n : Int)
theorem d1 : double.leastPlace = -1074 := by decide
theorem d2 : double.infRung = 9218868437227405312 := by decide
theorem d3 : double.binade = 4503599627370496 := by decide
theorem d4 : (double.fractionBits : Int) = 52 := rfl
theorem d5 : double.signWeight = 9223372036854775808 := by decide
theorem log2_rng (n : Nat) (h0 : 0 < n) (h : n < 65536) : 2 ^ n.log2 ≤ n ∧ n < 2 ^ (n.log2 + 1) ∧ n.log2 ≤ 15 := by
  have h1 := Nat.log2_self_le (n := n) (by omega)
  have h2 := Nat.lt_log2_self (n := n)
  refine ⟨h1, h2, ?_⟩
  have : n.log2 < 16 := (Nat.log2_lt (by omega)).2 h
  omega
theorem nearest_pos (n : Nat) (h0 : 0 < n) (h : n < 65536) : double.nearest false n 0 = (n.log2 + 1022) * 4503599627370496 + n * 2 ^ (52 - n.log2) ∧ 4503599627370496 ≤ n * 2 ^ (52 - n.log2) ∧ n * 2 ^ (52 - n.log2) < 9007199254740992 := by
  obtain ⟨h1, h2, h3⟩ := log2_rng n h0 h
  unfold Format.nearest
  rw [if_neg (by omega), d1, d2, d3, d4]
  simp only []
  have el : max ((0 : Int) + (n.log2 : Int) - 52) (-1074) = (n.log2 : Int) - 52 := by omega
  rw [el]
  have ek : ((0 : Int) - ((n.log2 : Int) - 52)).toNat = 52 - n.log2 := by omega
  have ed : ((n.log2 : Int) - 52 - 0).toNat = 0 := by omega
  have ep : ((n.log2 : Int) - 52 - -1074).toNat = n.log2 + 1022 := by omega
  rw [ek, ed, ep, Nat.shiftLeft_eq]
  have ec : Toward.even.cut false (n * 2 ^ (52 - n.log2)) 0 = n * 2 ^ (52 - n.log2) := by
    simp [Toward.cut, Nat.mod_one]
  rw [ec]
  unfold Format.word
  simp only [Bool.false_eq_true, if_false]
  generalize n.log2 = l at h1 h2 h3
  have hl : l = 0 ∨ l = 1 ∨ l = 2 ∨ l = 3 ∨ l = 4 ∨ l = 5 ∨ l = 6 ∨ l = 7 ∨ l = 8 ∨ l = 9 ∨ l = 10 ∨ l = 11 ∨ l = 12 ∨ l = 13 ∨ l = 14 ∨ l = 15 := by omega
  rcases hl with rfl | rfl | rfl | rfl | rfl | rfl | rfl | rfl | rfl | rfl | rfl | rfl | rfl | rfl | rfl | rfl <;> (simp only [Nat.reducePow, Nat.reduceAdd, Nat.reduceSub] at h1 h2 ⊢; omega)
/-- The whole number that a datum stands for. -/
def Rep (d : Datum) (z : Nat) : Prop := ∃ m i, d = .number false m i ∧ i ≤ 0 ∧ -1074 ≤ i ∧ ∀ base : Int, base ≤ i → m <<< (i - base).toNat = z * 2 ^ (-base).toNat
theorem F_zero : F 0 = 0 := by decide
theorem read_zero : double.read 0 = .number false 0 (-1074) := by decide
theorem F_pos (n : Nat) (h0 : 0 < n) : F n = double.nearest false n 0 := by
  unfold F FloatKind.nearest FloatKind.encode FloatKind.format
  simp only [Format.write, Int.natAbs_natCast]
  rw [decide_eq_false (by omega)]
theorem rep_F (n : Nat) (h : n < 65536) : Rep (double.read (F n)) n := by
  by_cases h0 : n = 0
  · subst h0
    rw [F_zero, read_zero]
    exact ⟨0, -1074, rfl, by omega, by omega, fun base _ => by simp⟩
  · have h0' : 0 < n := by omega
    obtain ⟨e, g1, g2⟩ := nearest_pos n h0' h
    obtain ⟨l1, l2, l3⟩ := log2_rng n h0' h
    rw [F_pos n h0', e]
    refine ⟨n * 2 ^ (52 - n.log2), (n.log2 : Int) - 52, ?_, by omega, by omega, ?_⟩
    · unfold Format.read
      rw [d1, d2, d3, d5]
      simp only []
      generalize n * 2 ^ (52 - n.log2) = m at g1 g2
      generalize n.log2 = l at l3
      have q1 : ((l + 1022) * 4503599627370496 + m) / 9223372036854775808 = 0 := by omega
      have q2 : ((l + 1022) * 4503599627370496 + m) % 9223372036854775808 = (l + 1022) * 4503599627370496 + m := by omega
      rw [q1, q2, if_neg (by omega), if_pos (by omega)]
      have q3 : 4503599627370496 + ((l + 1022) * 4503599627370496 + m) % 4503599627370496 = m := by omega
      have q4 : (-1074 : Int) + (((l + 1022) * 4503599627370496 + m) / 4503599627370496 - 1 : Nat) = (l : Int) - 52 := by omega
      rw [q3, q4]
      rfl
    · intro base hb
      rw [Nat.shiftLeft_eq, Nat.mul_assoc, ← Nat.pow_add]
      congr 2
      omega
/-- What a rung's word is to zero. -/
theorem order_word (neg : Bool) (r : Nat) (h0 : 0 < r) (h1 : r ≤ 9218868437227405312) : double.order (double.word neg r) 0 = some (if neg then .lt else .gt) := by
  have k2 : ∀ x y : Int, compare x y = if x < y then .lt else if x = y then .eq else .gt := fun x y => rfl
  unfold Format.order
  rw [read_zero]
  have hr : double.read (double.word neg r) = (if r < 4503599627370496 then .number neg r (-1074) else if r < 9218868437227405312 then .number neg (4503599627370496 + r % 4503599627370496) (-1074 + (r / 4503599627370496 - 1 : Nat)) else .infinity neg) := by
    unfold Format.read Format.word
    rw [d1, d2, d3, d5]
    simp only []
    cases neg with
    | false =>
      simp only [Bool.false_eq_true, if_false]
      have q1 : r / 9223372036854775808 = 0 := by omega
      have q2 : r % 9223372036854775808 = r := by omega
      rw [q1, q2]
      by_cases c1 : r < 4503599627370496
      · rw [if_pos c1, if_pos c1]; rfl
      · by_cases c2 : r < 9218868437227405312
        · rw [if_neg c1, if_pos c2, if_neg c1, if_pos c2]; rfl
        · rw [if_neg c1, if_neg c2, if_neg c1, if_neg c2, if_pos (by omega)]; rfl
    | true =>
      simp only [if_true]
      have q1 : (9223372036854775808 + r) / 9223372036854775808 = 1 := by omega
      have q2 : (9223372036854775808 + r) % 9223372036854775808 = r := by omega
      rw [q1, q2]
      by_cases c1 : r < 4503599627370496
      · rw [if_pos c1, if_pos c1]; rfl
      · by_cases c2 : r < 9218868437227405312
        · rw [if_neg c1, if_pos c2, if_neg c1, if_pos c2]; rfl
        · rw [if_neg c1, if_neg c2, if_neg c1, if_neg c2, if_pos (by omega)]; rfl
  rw [hr]
  have num : ∀ (m : Nat) (i : Int), 0 < m → (Datum.number neg m i).order (.number false 0 (-1074)) = some (if neg then .lt else .gt) := by
    intro m i hm
    have hp : 0 < m <<< (i - min i (-1074)).toNat := by rw [Nat.shiftLeft_eq]; exact Nat.mul_pos hm (Nat.two_pow_pos _)
    simp only [Datum.order, signed, Bool.false_eq_true, if_false, Nat.zero_shiftLeft]
    generalize m <<< (i - min i (-1074)).toNat = z at hp
    cases neg with
    | false => simp only [Bool.false_eq_true, if_false]; rw [k2, if_neg (by omega), if_neg (by omega)]
    | true => simp only [if_true]; rw [k2, if_pos (by omega)]
  split
  · exact num _ _ h0
  · split
    · exact num _ _ (by omega)
    · cases neg <;> rfl
theorem order_nearest (neg : Bool) (mag : Nat) (place : Int) (h0 : 0 < mag) (hp : -1074 ≤ place) : double.order (double.nearest neg mag place) 0 = some (if neg then .lt else .gt) := by
  unfold Format.nearest
  rw [if_neg (by omega), d1, d2, d3, d4]
  simp only []
  refine order_word neg _ ?_ (Nat.min_le_right _ _)
  generalize hl : max (place + (mag.log2 : Int) - 52) (-1074) = last
  have hpos : 0 < (last - -1074).toNat * 4503599627370496 + Toward.even.cut neg (mag <<< (place - last).toNat) (last - place).toNat := by
    by_cases hd : last ≤ place
    · have e : (last - place).toNat = 0 := by omega
      rw [e]
      have ec : Toward.even.cut neg (mag <<< (place - last).toNat) 0 = mag <<< (place - last).toNat := by simp [Toward.cut, Nat.mod_one]
      rw [ec, Nat.shiftLeft_eq]
      have := Nat.mul_pos h0 (Nat.two_pow_pos (place - last).toNat)
      omega
    · omega
  omega
theorem order_zero (neg : Bool) : double.order (double.word neg 0) 0 = some .eq := by cases neg <;> decide
/-- A difference of two, not below zero. -/
theorem sub_ge (a b : Nat) (ha : a < 65536) (hb : b < 65536) : ∃ r, double.sub (F a) (F b) = some r ∧ (double.order r 0 == some .gt || double.order r 0 == some .eq) = decide (b ≤ a) := by
  obtain ⟨m, i, e1, i1, i2, f1⟩ := rep_F a ha
  obtain ⟨n, j, e2, j1, j2, f2⟩ := rep_F b hb
  unfold Format.sub
  rw [e1, e2]
  simp only [Datum.opposite, Datum.sum, signed, Bool.false_eq_true, if_false, Bool.not_false, if_true, Option.map_some, Format.write, Bool.false_and]
  rw [f1 (min i j) (by omega), f2 (min i j) (by omega)]
  refine ⟨_, rfl, ?_⟩
  have hp : 0 < 2 ^ (-(min i j)).toNat := Nat.two_pow_pos _
  generalize 2 ^ (-(min i j)).toNat = q at hp
  by_cases h : a = b
  · subst h
    have e0 : ((a * q : Nat) : Int) + -((a * q : Nat) : Int) = 0 := by omega
    rw [e0]
    simp only [if_true, Int.natAbs_zero]
    have en : double.nearest false 0 (min i j) = double.word false 0 := by unfold Format.nearest; rw [if_pos rfl]
    rw [en, order_zero, decide_eq_true (Nat.le_refl _)]
    rfl
  · by_cases hab : a < b
    · have hm : a * q < b * q := Nat.mul_lt_mul_of_pos_right hab hp
      rw [if_neg (by omega), decide_eq_true (by omega), order_nearest true _ _ (by omega) (by omega), decide_eq_false (by omega)]
      rfl
    · have hm : b * q < a * q := Nat.mul_lt_mul_of_pos_right (by omega) hp
      rw [if_neg (by omega), decide_eq_false (by omega), order_nearest false _ _ (by omega) (by omega), decide_eq_true (by omega)]
      rfl
end Go.Proofs.Ytgelpccjdndfoaa.P
namespace Go.Proofs.Ytgelpccjdndfoaa.P
open Go.RowKit Go.Proofs.YtgelpccjdndfoaaW.PrintWords Go.Proofs.YtgelpccjdndfoaaW.PrintLast Go.Proofs.YtgelpccjdndfoaaW.PrintMore
/-! Communities as points of a plane: point, within, In. -/
theorem quoN (n : Nat) (h : n < 4294967296) : Int.tdiv (n : Int) 65536 % 4294967296 = ((n / 65536 : Nat) : Int) := by
  rw [Int.tdiv_eq_ediv_of_nonneg (by omega)]
  omega
theorem remN (n : Nat) : Int.tmod (n : Int) 65536 = ((n % 65536 : Nat) : Int) := by
  rw [Int.tmod_eq_emod_of_nonneg (by omega)]
  omega
theorem point_calls (n : Nat) (hn : n < 4294967296) (w : World) : Calls Try.prog 86 #[.int .u32 (n : Int)] w fun e w' => e = .returned (.complex .f64 (F (n / 65536)) (F (n % 65536))) ∧ w' = w := by
  have q1 := quoN n hn
  have q2 := remN n
  have hu44 := Try.underlying133
  have hu22 := Try.underlying22
  go_enter Try.func86, Try.ntmps86
  go_wp2
  go_ret
  exact ⟨by simp [floatOfInt, F, q1, q2], rfl⟩
/-- Is the point (a, b) within (c, d) .. (e, f)? -/
def withinN (a b c d e f : Nat) : Bool := decide (c ≤ a) && (decide (d ≤ b) && (decide (a ≤ e) && decide (b ≤ f)))
theorem within_calls (a b c d e f : Nat) (ha : a < 65536) (hb : b < 65536) (hc : c < 65536) (hd : d < 65536) (he : e < 65536) (hf : f < 65536) (w : World) :
    Calls Try.prog 85 #[.complex .f64 (F a) (F b), .complex .f64 (F c) (F d), .complex .f64 (F e) (F f)] w fun x w' => x = .returned (.bool (withinN a b c d e f)) ∧ w' = w := by
  obtain ⟨r1, s1, t1⟩ := sub_ge a c ha hc
  obtain ⟨r2, s2, t2⟩ := sub_ge b d hb hd
  obtain ⟨r3, s3, t3⟩ := sub_ge e a he ha
  obtain ⟨r4, s4, t4⟩ := sub_ge f b hf hb
  have e1 : ∀ w, (binOp .sub 124 (.complex .f64 (F a) (F b)) (.complex .f64 (F c) (F d))).run Try.prog w = .ok (.complex .f64 r1 r2) w := fun w =>
    run_complex_sum w .sub (Or.inr rfl) 124 .f64 _ _ _ _ _ _ (by unfold cSumBits floatBits; simp only [FloatKind.format]; rw [s1, s2]; rfl)
  have e2 : ∀ w, (binOp .sub 124 (.complex .f64 (F e) (F f)) (.complex .f64 (F a) (F b))).run Try.prog w = .ok (.complex .f64 r3 r4) w := fun w =>
    run_complex_sum w .sub (Or.inr rfl) 124 .f64 _ _ _ _ _ _ (by unfold cSumBits floatBits; simp only [FloatKind.format]; rw [s3, s4]; rfl)
  have g1 : (FloatKind.f64.format.order r1 0 == some .gt || FloatKind.f64.format.order r1 0 == some .eq) = decide (c ≤ a) := t1
  have g2 : (FloatKind.f64.format.order r2 0 == some .gt || FloatKind.f64.format.order r2 0 == some .eq) = decide (d ≤ b) := t2
  have g3 : (FloatKind.f64.format.order r3 0 == some .gt || FloatKind.f64.format.order r3 0 == some .eq) = decide (a ≤ e) := t3
  have g4 : (FloatKind.f64.format.order r4 0 == some .gt || FloatKind.f64.format.order r4 0 == some .eq) = decide (b ≤ f) := t4
  clear s1 s2 s3 s4 t1 t2 t3 t4
  unfold withinN
  generalize F a = fa at e1 e2 ⊢
  generalize F b = fb at e1 e2 ⊢
  generalize F c = fc at e1 ⊢
  generalize F d = fd at e1 ⊢
  generalize F e = fe at e2 ⊢
  generalize F f = ff at e2 ⊢
  have HG := Go.Lib.hid (And.intro g1 (And.intro g2 (And.intro g3 g4)))
  clear g1 g2 g3 g4
  go_enter Try.func85, Try.ntmps85
  go_wp2
  all_goals
    go_ret
    obtain ⟨g1, g2, g3, g4⟩ := HG.out
    refine ⟨?_, rfl⟩
    rw [← g1, ← g2, ← g3, ← g4]
    clear HG g1 g2 g3 g4 e1 e2
    simp_all [Bool.and_assoc]
theorem in_of (n lo hi : Nat) (hn : n < 4294967296) (hlo : lo < 4294967296) (hhi : hi < 4294967296) (w : World) :
    Calls Try.prog 67 #[.agg #[.int .u32 (lo : Int), .int .u32 (hi : Int)], .int .u32 (n : Int)] w fun e w' => e = .returned (.bool (withinN (n / 65536) (n % 65536) (lo / 65536) (lo % 65536) (hi / 65536) (hi % 65536))) ∧ Below w.heap.size w w' := by
  have hu24 := Try.underlying50
  have hp := fun (m : Nat) (hm : m < 4294967296) (w : World) => point_calls m hm w
  have hw := fun (w : World) => within_calls (n / 65536) (n % 65536) (lo / 65536) (lo % 65536) (hi / 65536) (hi % 65536) (by omega) (by omega) (by omega) (by omega) (by omega) (by omega) w
  have HP := Go.Lib.hid hp
  have HW := Go.Lib.hid hw
  clear hp hw
  go_enter Try.func67, Try.ntmps67
  go_wp2
  go_big_quiet (first | (go_at_call 86; refine Calls.quiet_of_same (HP.out _ (by assumption) _)) | (go_at_call 85; refine Calls.quiet_of_same (HW.out _)))
  go_wp2
  go_ret
  exact ⟨rfl, pw_below_drewN ((Below.refl _ _).alloc (Nat.le_refl _) _) _⟩
def u32B (a : Int) : Bool := decide (0 ≤ a) && decide (a < 4294967296)
theorem u32B_nat {a : Int} (h : u32B a = true) : ∃ n : Nat, a = (n : Int) ∧ n < 4294967296 := by
  unfold u32B at h
  simp only [Bool.and_eq_true, decide_eq_true_eq] at h
  exact ⟨a.toNat, by omega, by omega⟩
/-- Is the community c in the box lo .. hi? -/
def inB (lo hi c : Nat) : Bool := withinN (c / 65536) (c % 65536) (lo / 65536) (lo % 65536) (hi / 65536) (hi % 65536)
def plane_In.f (a0_0 : Int) (a0_1 : Int) (a1 : Int) : Option Bool := if (u32B a0_0 && (u32B a0_1 && u32B a1)) = true then some (inB a0_0.toNat a0_1.toNat a1.toNat) else none
theorem plane_In.calls (a0_0 : Int) (a0_1 : Int) (a1 : Int) (r : Bool) (w : World) (h : plane_In.f a0_0 a0_1 a1 = some r) :
    Calls Try.prog 67 #[.agg #[.int .u32 a0_0, .int .u32 a0_1], .int .u32 a1] w fun e w' => e = .returned (.bool r) ∧ Below w.heap.size w w' := by
  unfold plane_In.f at h
  by_cases hg : (u32B a0_0 && (u32B a0_1 && u32B a1)) = true
  · rw [if_pos hg] at h
    simp only [Bool.and_eq_true] at hg
    obtain ⟨lo, rfl, h1⟩ := u32B_nat hg.1
    obtain ⟨hi, rfl, h2⟩ := u32B_nat hg.2.1
    obtain ⟨n, rfl, h3⟩ := u32B_nat hg.2.2
    have hr := Option.some.inj h
    subst hr
    exact in_of n lo hi h3 h1 h2 w
  · rw [if_neg hg] at h
    exact absurd h (by simp)
/-! cond: lists of communities. -/
def cond_has.f (a0_0 a0_1 : Int) (l1 : List Int) : Option Bool := if l1.length ≤ 9223372036854775807 then anyM (fun c => plane_In.f a0_0 a0_1 c) l1 else none
theorem has_closure (lo hi c : Int) (B : Nat) (r : Bool) (W : World) (hB : B < W.heap.size) (hc0 : W.cell? ⟨B, 0, none⟩ = some (.int .u32 lo)) (hc1 : W.cell? ⟨B, 1, none⟩ = some (.int .u32 hi)) (hf : plane_In.f lo hi c = some r) :
    Calls Try.prog 66 #[.int .u32 c, .pointer (some ⟨B, 0, none⟩)] W fun e w' => e = .returned (.bool r) ∧ Below W.heap.size W w' := by
  have hu := Try.underlying50
  have HI := Go.Lib.hid (fun w => plane_In.calls lo hi c r w hf)
  clear hf
  go_enter Try.func66, Try.ntmps66
  go_wp2_with (first | (go_at_call 67; refine (HI.out _).mono ?_; rintro e w' ⟨rfl, hb⟩))
  go_ret
  exact ⟨rfl, hb⟩
theorem cond_has.calls (a0_0 a0_1 : Int) (A1 : Option Addr) (c1 : Nat) (l1 : List Int) (r : Bool) (w : World) (hr1 : Kd.C (Kd.int .u32) w A1 l1.length l1) (hc1 : l1.length ≤ c1) (h : cond_has.f a0_0 a0_1 l1 = some r) :
    Calls Try.prog 49 #[.agg #[.int .u32 a0_0, .int .u32 a0_1], .slice A1 l1.length c1] w fun e w' => e = .returned (.bool r) ∧ Below w.heap.size w w' := by
  unfold cond_has.f at h
  by_cases hl : l1.length ≤ 9223372036854775807
  · rw [if_pos hl] at h
    have hu := Try.underlying50
    have HCON := Go.Lib.hid (u32_contains (fun c => plane_In.f a0_0 a0_1 c) 66 #[.pointer (some ⟨w.heap.size, 0, none⟩)] (enters_of Try.func66 (by kernel_rfl) rfl) A1 c1 l1 r (w.alloc (.cells #[.int .u32 a0_0, .int .u32 a0_1] 50)) (Kd.C_below hr1 (below_alloc (Below.refl _ _) _)) hl (fun x hx b hb W hW => by
      have hBW : w.heap.size < (w.alloc (.cells #[.int .u32 a0_0, .int .u32 a0_1] 50)).heap.size := by simp
      exact has_closure a0_0 a0_1 x w.heap.size b W (Nat.lt_of_lt_of_le hBW hW.size) ((hW.cell (p := ⟨w.heap.size, 0, none⟩) hBW).trans (by simp)) ((hW.cell (p := ⟨w.heap.size, 1, none⟩) hBW).trans (by simp)) hb) h)
    clear h hr1
    go_enter Try.func49, Try.ntmps49
    go_wp2_with (first | (go_at_call 65; refine HCON.out.mono ?_; rintro e w' ⟨rfl, hb⟩))
    go_ret
    exact ⟨rfl, (below_alloc (Below.refl _ _) _).trans (hb.mono (by simp))⟩
  · rw [if_neg hl] at h
    exact absurd h (by simp)
/-! first: of the first that takes it. -/
def firstM (t : Nat → Option Bool) (d : Nat → Bool) : Nat → Nat → Option Bool
  | 0, _ => some false
  | m + 1, i => (t i).bind fun b => if b = true then some (!d i) else firstM t d m (i + 1)
set_option maxHeartbeats 1000000 in
theorem first_any (n : Nat) (t : Nat → Option Bool) (d : Nat → Bool) (g1 g2 : Nat) (lb1 lb2 : Array Value) (eg1 : ∀ args w, (callFunc g1 args).run Try.prog w = .ok (.enter g1 args) w) (eg2 : ∀ args w, (callFunc g2 args).run Try.prog w = .ok (.enter g2 args) w) (r : Bool) (w : World) (hn : n ≤ 9223372036854775807)
    (h1 : ∀ i, i < n → ∀ b, t i = some b → ∀ W, Below w.heap.size w W → Calls Try.prog g1 (#[.int .i64 (i : Int)] ++ lb1) W fun e w' => e = .returned (.bool b) ∧ Below W.heap.size W w')
    (h2 : ∀ i, i < n → ∀ W, Below w.heap.size w W → Calls Try.prog g2 (#[.int .i64 (i : Int)] ++ lb2) W fun e w' => e = .returned (.bool (d i)) ∧ Below W.heap.size W w')
    (h : firstM t d n 0 = some r) :
    Calls Try.prog 45 #[.int .i64 (n : Int), .func (.func g1) #[] lb1, .func (.func g2) #[] lb2] w fun e w' => e = .returned (.bool r) ∧ Below w.heap.size w w' := by
  have H0 := Go.Lib.hid h
  have H1 := Go.Lib.hid h1
  have H2 := Go.Lib.hid h2
  clear h h1 h2
  go_enter Try.func45, Try.ntmps45
  go_wp2
  go_loopw [9] (fun i wr => ∃ k : Nat, k ≤ n ∧ i = .int .i64 k ∧ Hid (firstM t d (n - k) k = some r) ∧ Hid (Below w.heap.size w wr)) (fun i _ => n - (intOf i).toNat)
  case atStart => exact ⟨0, Nat.zero_le _, rfl, Go.Lib.hid (by rw [Nat.sub_zero]; exact H0.out), Go.Lib.hid (Below.refl _ _)⟩
  case round =>
    obtain ⟨k, hk, rfl, HN, HBb⟩ := hrel
    by_cases hlt : k < n
    · have hn1 := HN.out
      obtain ⟨m, hm⟩ : ∃ m, n - k = m + 1 := ⟨n - k - 1, by omega⟩
      rw [hm] at hn1
      simp only [firstM] at hn1
      obtain ⟨b, hb1, hb2⟩ := Option.bind_eq_some_iff.mp hn1
      have HM := Go.Lib.hid hm
      clear hn1 hm
      have HC1 := Go.Lib.hid (H1.out k hlt b hb1 wr HBb.out)
      have HT := Go.Lib.hid hb1
      clear hb1
      cases b with
      | true =>
        have HB2 := Go.Lib.hid (show (!d k) = r by rw [if_pos rfl] at hb2; exact Option.some.inj hb2)
        clear hb2
        go_wp2_with (first | (go_at_fn g1; refine (HC1.out).mono ?_; rintro e w1 ⟨rfl, hb1⟩; have HBB := Go.Lib.hid (HBb.out.trans (hb1.mono HBb.out.size)); clear hb1) | (go_at_fn g2; refine (H2.out k hlt _ HBB.out).mono ?_; rintro e w2 ⟨rfl, hb2⟩))
        go_ret
        exact ⟨congrArg (fun b => Ending.returned (Value.bool b)) HB2.out, HBB.out.trans (hb2.mono HBB.out.size)⟩
      | false =>
        have HB2 := Go.Lib.hid (show firstM t d (n - (k + 1)) (k + 1) = some r by rw [if_neg (by decide)] at hb2; have := HM.out; rw [show n - (k + 1) = m by omega]; exact hb2)
        clear hb2
        go_wp2_with (first | (go_at_fn g1; refine (HC1.out).mono ?_; rintro e w1 ⟨rfl, hb1⟩; have HBB := Go.Lib.hid (HBb.out.trans (hb1.mono HBb.out.size)); clear hb1))
        go_roundw
        case rel => exact ⟨k + 1, by omega, by go_num, HB2, HBB⟩
        case measure => simp [intOf]; omega
    · have HN2 := Go.Lib.hid (show false = r by
        have := HN.out
        rw [show n - k = 0 by omega] at this
        exact Option.some.inj this)
      go_wp2
      go_ret
      exact ⟨congrArg (fun b => Ending.returned (Value.bool b)) HN2.out, HBb.out⟩
/-! TakesComms. -/
def entM (comms : List Int) (e : S53) : Option Bool := (if e.f1.length ≤ 9223372036854775807 then anyM (fun b => (cond_has.f b.f0 b.f1 comms).map (!·)) e.f1 else none).map (!·)
def takesM (comms : List Int) : List S53 → Option Bool
  | [] => some false
  | e :: l => (entM comms e).bind fun b => if b = true then some (!e.f0) else takesM comms l
def cond_TakesComms.f (l0 : List S53) (l1 : List Int) : Option Bool := if l0.length ≤ 9223372036854775807 then takesM l1 l0 else none
theorem comm_getD (l : List S53) (k : Nat) (h : k < l.length) : rd_T53 l (k : Int) = l[k] := by
  unfold rd_T53
  rw [Int.toNat_natCast, List.getD_eq_getElem?_getD, List.getElem?_eq_getElem h]
  rfl
theorem comm_box (lo hi : Int) (C : Nat) (A1 : Option Addr) (c1 : Nat) (comms : List Int) (b : Bool) (W : World) (hC : C < W.heap.size) (hcC : W.cell? ⟨C, 0, none⟩ = some (.slice A1 comms.length c1)) (hr1 : Kd.C (Kd.int .u32) W A1 comms.length comms) (hc1 : comms.length ≤ c1) (hf : (cond_has.f lo hi comms).map (!·) = some b) :
    Calls Try.prog 48 #[.agg #[.int .u32 lo, .int .u32 hi], .pointer (some ⟨C, 0, none⟩)] W fun e w' => e = .returned (.bool b) ∧ Below W.heap.size W w' := by
  have hu := Try.underlying50
  have hne : C ≠ W.heap.size := by omega
  obtain ⟨q, hq, hqb⟩ := Option.map_eq_some_iff.1 hf
  have HQ := Go.Lib.hid hqb
  have HI := Go.Lib.hid (cond_has.calls lo hi A1 c1 comms q (W.alloc (.cells #[.int .u32 lo, .int .u32 hi] 50)) (Kd.C_below hr1 (below_alloc (Below.refl _ _) _)) hc1 hq)
  clear hf hq hqb hr1
  go_enter Try.func48, Try.ntmps48
  go_wp2_with (first | (go_at_call 49; refine HI.out.mono ?_; rintro e w' ⟨rfl, hb⟩))
  go_ret
  exact ⟨congrArg (fun b => Ending.returned (Value.bool b)) HQ.out, (below_alloc (Below.refl _ _) _).trans (hb.mono (by simp))⟩
set_option maxHeartbeats 1000000 in
theorem comm_entry (L C : Nat) (A0 : Option Addr) (c0 : Nat) (l : List S53) (A1 : Option Addr) (c1 : Nat) (comms : List Int) (i : Nat) (hi : i < l.length) (b : Bool) (W : World) (hL : L < W.heap.size) (hcL : W.cell? ⟨L, 0, none⟩ = some (.slice A0 l.length c0)) (hC : C < W.heap.size) (hcC : W.cell? ⟨C, 0, none⟩ = some (.slice A1 comms.length c1))
    (hr0 : Kd.C k53 W A0 l.length l) (hr1 : Kd.C (Kd.int .u32) W A1 comms.length comms) (hc1 : comms.length ≤ c1) (hf : entM comms l[i] = some b) :
    Calls Try.prog 46 #[.int .i64 (i : Int), .pointer (some ⟨L, 0, none⟩), .pointer (some ⟨C, 0, none⟩)] W fun e w' => e = .returned (.bool b) ∧ Below W.heap.size W w' := by
  have hu := Try.underlying53
  obtain ⟨ad, A2, c2, e0, h0, h1, g0, g1⟩ := at_T53 hr0 (i : Int) (by omega) (by omega)
  simp only [Int.toNat_natCast] at h0 h1
  rw [comm_getD l i hi] at h0 h1 g0 g1
  generalize l[i] = x at hf h0 h1 g0 g1
  cases e0
  obtain ⟨q, hq, hqb⟩ := Option.map_eq_some_iff.1 hf
  have HQ := Go.Lib.hid hqb
  clear hf hqb
  by_cases hl : x.f1.length ≤ 9223372036854775807
  · rw [if_pos hl] at hq
    have HCON := Go.Lib.hid (box_contains (fun b => (cond_has.f b.f0 b.f1 comms).map (!·)) 48 #[.pointer (some ⟨C, 0, none⟩)] (enters_of Try.func48 (by kernel_rfl) rfl) A2 c2 x.f1 q W g1 hl (fun y hy b hb W' hW => comm_box y.f0 y.f1 C A1 c1 comms b W' (Nat.lt_of_lt_of_le hC hW.size) ((hW.cell (p := ⟨C, 0, none⟩) hC).trans hcC) (Kd.C_below hr1 hW) hc1 hb) hq)
    clear hq g0 g1 hr0 hr1
    go_enter Try.func46, Try.ntmps46
    go_wp2_with (first | (go_at_call 47; refine HCON.out.mono ?_; rintro e w' ⟨rfl, hb⟩))
    go_ret
    exact ⟨congrArg (fun b => Ending.returned (Value.bool b)) HQ.out, hb⟩
  · rw [if_neg hl] at hq
    exact absurd hq (by simp)
theorem comm_deny (L : Nat) (A0 : Option Addr) (c0 : Nat) (l : List S53) (i : Nat) (hi : i < l.length) (W : World) (hL : L < W.heap.size) (hcL : W.cell? ⟨L, 0, none⟩ = some (.slice A0 l.length c0)) (hr0 : Kd.C k53 W A0 l.length l) :
    Calls Try.prog 50 #[.int .i64 (i : Int), .pointer (some ⟨L, 0, none⟩)] W fun e w' => e = .returned (.bool (l.getD i z53).f0) ∧ Below W.heap.size W w' := by
  have hu := Try.underlying53
  obtain ⟨ad, A2, c2, e0, h0, h1, g0, g1⟩ := at_T53 hr0 (i : Int) (by omega) (by omega)
  simp only [Int.toNat_natCast] at h0 h1
  have hd : rd_T53 l (i : Int) = l.getD i z53 := by unfold rd_T53; rw [Int.toNat_natCast]
  rw [hd] at h0 h1 g0 g1
  generalize l.getD i z53 = x at h0 h1 g0 g1
  clear hd g0 g1 hr0
  cases e0
  go_enter Try.func50, Try.ntmps50
  go_wp2
  go_ret
  exact ⟨rfl, Below.refl _ _⟩
theorem takes_first (comms : List Int) (l : List S53) : ∀ (m i : Nat), i + m = l.length → firstM (fun j => if h : j < l.length then entM comms l[j] else none) (fun j => (l.getD j z53).f0) m i = takesM comms (l.drop i)
  | 0, i, hi => by
    rw [List.drop_eq_nil_of_le (by omega)]
    rfl
  | m + 1, i, hi => by
    have hil : i < l.length := by omega
    rw [List.drop_eq_getElem_cons hil]
    simp only [firstM, takesM]
    rw [dif_pos hil, takes_first comms l m (i + 1) (by omega)]
    have : (l.getD i z53) = l[i] := by rw [List.getD_eq_getElem?_getD, List.getElem?_eq_getElem hil]; rfl
    rw [this]
theorem cond_TakesComms.calls (A0 : Option Addr) (c0 : Nat) (l0 : List S53) (A1 : Option Addr) (c1 : Nat) (l1 : List Int) (r : Bool) (w : World) (hr0 : Kd.C k53 w A0 l0.length l0) (hc0 : l0.length ≤ c0) (hr1 : Kd.C (Kd.int .u32) w A1 l1.length l1) (hc1 : l1.length ≤ c1) (h : cond_TakesComms.f l0 l1 = some r) :
    Calls Try.prog 31 #[.slice A0 l0.length c0, .slice A1 l1.length c1] w fun e w' => e = .returned (.bool r) ∧ Below w.heap.size w w' := by
  unfold cond_TakesComms.f at h
  by_cases hl : l0.length ≤ 9223372036854775807
  · rw [if_pos hl] at h
    have h' : firstM (fun j => if h : j < l0.length then entM l1 l0[j] else none) (fun j => (l0.getD j z53).f0) l0.length 0 = some r := by
      rw [takes_first l1 l0 l0.length 0 (by omega), List.drop_zero]; exact h
    clear h
    obtain ⟨w1, hw1⟩ : ∃ w1, w1 = (w.alloc (.cells #[.slice A0 l0.length c0] 24)).alloc (.cells #[.slice A1 l1.length c1] 23) := ⟨_, rfl⟩
    have hb1 : Below w.heap.size w w1 := by rw [hw1]; exact below_alloc (below_alloc (Below.refl _ _) _) _
    have hs : w1.heap.size = w.heap.size + 2 := by rw [hw1]; simp
    have hcL : w1.cell? ⟨w.heap.size, 0, none⟩ = some (.slice A0 l0.length c0) := by rw [hw1]; simp
    have hcC : w1.cell? ⟨w.heap.size + 1, 0, none⟩ = some (.slice A1 l1.length c1) := by rw [hw1]; simp
    have HCON := Go.Lib.hid (first_any l0.length (fun j => if h : j < l0.length then entM l1 l0[j] else none) (fun j => (l0.getD j z53).f0) 46 50 #[.pointer (some ⟨w.heap.size, 0, none⟩), .pointer (some ⟨w.heap.size + 1, 0, none⟩)] #[.pointer (some ⟨w.heap.size, 0, none⟩)] (enters_of Try.func46 (by kernel_rfl) rfl) (enters_of Try.func50 (by kernel_rfl) rfl) r w1 hl
      (fun i hi b hb W hW => by
        rw [dif_pos hi] at hb
        exact comm_entry w.heap.size (w.heap.size + 1) A0 c0 l0 A1 c1 l1 i hi b W (Nat.lt_of_lt_of_le (by omega) hW.size) ((hW.cell (p := ⟨w.heap.size, 0, none⟩) (show w.heap.size < w1.heap.size by omega)).trans hcL) (Nat.lt_of_lt_of_le (by omega) hW.size) ((hW.cell (p := ⟨w.heap.size + 1, 0, none⟩) (show w.heap.size + 1 < w1.heap.size by omega)).trans hcC) (Kd.C_below (Kd.C_below hr0 hb1) hW) (Kd.C_below (Kd.C_below hr1 hb1) hW) hc1 hb)
      (fun i hi W hW => comm_deny w.heap.size A0 c0 l0 i hi W (Nat.lt_of_lt_of_le (by omega) hW.size) ((hW.cell (p := ⟨w.heap.size, 0, none⟩) (show w.heap.size < w1.heap.size by omega)).trans hcL) (Kd.C_below (Kd.C_below hr0 hb1) hW)) h')
    rw [hw1] at HCON hb1
    clear hcL hcC hs hw1 h' hr0 hr1
    have HB := Go.Lib.hid hb1
    clear hb1
    go_enter Try.func31, Try.ntmps31
    go_wp2_with (first | (go_at_call 45; refine HCON.out.mono ?_; rintro e w' ⟨rfl, hb⟩))
    go_ret
    exact ⟨rfl, HB.out.trans (hb.mono HB.out.size)⟩
  · rw [if_neg hl] at h
    exact absurd h (by simp)
/-! act.Do's way with DelComms: slices.DeleteFunc with its closure. -/
def act_del.f (l0 : List Int) (l1 : List S53) : Option (List Int) := keepM (fun c => cond_TakesComms.f l1 [c]) l0
theorem one_row (c : Int) (w : World) : Kd.C (Kd.int .u32) (w.alloc (.cells #[.int .u32 c] 22)) (some ⟨w.heap.size, 0, none⟩) [c].length [c] := by
  refine ⟨rfl, by simp, fun _ => ⟨_, rfl, fun j p hp => ?_⟩⟩
  have hj : j = 0 := by have := (List.getElem?_eq_some_iff.1 hp).1; simp at this; omega
  subst hj
  have : c = p := by simpa using hp
  subst this
  refine ⟨[.int .u32 c], rfl, rfl, fun i u hu => ?_⟩
  have hi : i = 0 := by have := (List.getElem?_eq_some_iff.1 hu).1; simp at this; omega
  subst hi
  have : Value.int .u32 c = u := by simpa using hu
  subst this
  simp [Addr.add]
theorem del_closure (B : Nat) (A3 : Option Addr) (c3 : Nat) (l3 : List S53) (c : Int) (b : Bool) (W : World) (hB : B < W.heap.size) (hc : W.cell? ⟨B, 3, none⟩ = some (.slice A3 l3.length c3)) (hr : Kd.C k53 W A3 l3.length l3) (hl : l3.length ≤ c3) (hf : cond_TakesComms.f l3 [c] = some b) :
    Calls Try.prog 30 #[.int .u32 c, .pointer (some ⟨B, 0, none⟩)] W fun e w' => e = .returned (.bool b) ∧ Below W.heap.size W w' := by
  have hu := Try.underlying26
  have hne : B ≠ W.heap.size := by omega
  have HI := Go.Lib.hid (cond_TakesComms.calls A3 c3 l3 (some ⟨W.heap.size, 0, none⟩) 1 [c] b (W.alloc (.cells #[.int .u32 c] 22)) (Kd.C_below hr (below_alloc (Below.refl _ _) _)) hl (one_row c W) (Nat.le_refl _) hf)
  clear hf hr
  go_enter Try.func30, Try.ntmps30
  go_wp2_with (first | (go_at_call 31; refine HI.out.mono ?_; rintro e w' ⟨rfl, hb⟩))
  go_ret
  exact ⟨rfl, (below_alloc (Below.refl _ _) _).trans (hb.mono (by simp))⟩
theorem act_del.calls (g1 : Nat) (cs : Array Value) (P0_ : Nat → Prop) (u9000_ : Value) (l0 : List Int) (A1 : Option Addr) (c1 : Nat) (l1 : List S53) (r : List Int) (w0 w : World) (hB : Below w0.heap.size w0 w) (ho0 : Kd.R (Kd.int .u32) 22 w w0.heap.size P0_ u9000_ l0) (hr1 : ∀ W', Kept w W' (fun k_ => P0_ k_) → Kd.C k53 W' A1 l1.length l1) (hc1 : l1.length ≤ c1) (hblk : w.heap[g1]? = some (.cells cs 26 (0, 0))) (hcs : cs[3]? = some (.slice A1 l1.length c1)) (hg1 : ¬ P0_ g1) (h : act_del.f l0 l1 = some r) :
    Calls Try.prog 29 #[u9000_, .func (.func 30) #[] #[.pointer (some ⟨g1, 0, none⟩)]] w fun e w' => ∃ v0_ : Value, e = .returned (v0_) ∧ Kd.R (Kd.int .u32) 22 w' w0.heap.size (fun k_ => (P0_ k_ ∨ w.heap.size ≤ k_)) v0_ r ∧ Below w0.heap.size w0 w' ∧ Kept w w' (fun k_ => P0_ k_) := by
  refine delete_u32 (fun c => cond_TakesComms.f l1 [c]) 30 #[.pointer (some ⟨g1, 0, none⟩)] (enters_of Try.func30 (by kernel_rfl) rfl) P0_ u9000_ l0 r w0 w hB ho0 (fun W hW hK x hx b hb => ?_) h
  have hbW := blk_kept hblk hK hg1
  exact del_closure g1 A1 c1 l1 x b W (blk_lt hbW) ((blk_cell hbW 3).trans hcs) (hr1 W hK) hc1 hb
/-! slices.ContainsFunc at one type of elements, whatever the closure. -/
/-- What is asked of the closure. -/
def comm_pred (g : Nat) (lb : Array Value) (p : S53 → Option Bool) (l : List S53) (w : World) : Prop :=
  ∀ x ∈ l, ∀ b, p x = some b → ∀ (A1 : Option Addr) (c1 : Nat) (W : World), Below w.heap.size w W → x.f1.length ≤ c1 → k50.C W A1 x.f1.length x.f1 → Calls Try.prog g (#[.agg #[.bool x.f0, .slice A1 x.f1.length c1]] ++ lb) W fun e w' => e = .returned (.bool b) ∧ Below W.heap.size W w'
theorem comm_get (l : List S53) (k : Nat) (h : k < l.length) : rd_T53 l (k : Int) = l[k] := by
  unfold rd_T53
  rw [Int.toNat_natCast, List.getD_eq_getElem?_getD, List.getElem?_eq_getElem h]
  rfl
set_option maxHeartbeats 1000000 in
theorem comm_index (p : S53 → Option Bool) (g : Nat) (lb : Array Value) (eg : ∀ args w, (callFunc g args).run Try.prog w = .ok (.enter g args) w) (A0 : Option Addr) (c0 : Nat) (l0 : List S53) (r : Bool) (w : World) (hr0 : Kd.C k53 w A0 l0.length l0) (hl : l0.length ≤ 9223372036854775807) (hp : comm_pred g lb p l0 w) (h : anyM p l0 = some r) :
    Calls Try.prog 73 #[.slice A0 l0.length c0, .func (.func g) #[] lb] w (IdxPost p l0 w) := by
  have hu53 := Try.underlying53
  have HR := Go.Lib.hid hr0
  have HP := Go.Lib.hid hp
  have H0 := Go.Lib.hid h
  clear hr0 hp h
  go_enter Try.func73, Try.ntmps73
  go_wp2
  go_loopw [8] (fun i wr => ∃ k : Nat, k ≤ l0.length ∧ i = .int .i64 k ∧ Hid (anyM p (l0.drop k) = some r ∧ ∀ m (hm : m < l0.length), m < k → p l0[m] = some false) ∧ Hid (Below w.heap.size w wr)) (fun i _ => l0.length - (intOf i).toNat)
  case atStart => exact ⟨0, Nat.zero_le _, rfl, Go.Lib.hid ⟨H0.out, fun m _ hm => absurd hm (Nat.not_lt_zero m)⟩, Go.Lib.hid (Below.refl _ _)⟩
  case round =>
    obtain ⟨k, hk, rfl, HN, HBb⟩ := hrel
    by_cases hlt : k < l0.length
    · obtain ⟨ad, A1, c1, e0, h0, h1, g0, g1⟩ := at_T53 (Kd.C_below HR.out HBb.out) (k : Int) (by omega) (by omega)
      have hmem : l0[k] ∈ l0 := List.getElem_mem hlt
      have hx : rd_T53 l0 (k : Int) = l0[k] := comm_get l0 k hlt
      have hn := HN.out.1
      have HLK := Go.Lib.hid (show ∀ b, p l0[k] = some b → p l0[k] = some b from fun b h => h)
      rw [List.drop_eq_getElem_cons hlt] at hn
      simp only [anyM] at hn
      simp only [Int.toNat_natCast] at h0 h1
      rw [hx] at h0 h1 g0 g1
      obtain ⟨x, hxe⟩ : ∃ x, x = l0[k] := ⟨_, rfl⟩
      rw [← hxe] at hmem hn hx h0 h1 g0 g1
      have HXE := Go.Lib.hid hxe
      clear hx hxe HLK
      cases e0
      obtain ⟨b, hb1, hb2⟩ := Option.bind_eq_some_iff.mp hn
      clear hn
      have HB1 := Go.Lib.hid hb1
      have HCL := Go.Lib.hid (HP.out x hmem b hb1 A1 c1 wr HBb.out g0 g1)
      clear hb1 hmem g0 g1
      cases b with
      | true =>
        clear hb2
        go_wp2_with (go_at_fn g; refine (HCL.out).mono ?_; rintro e w' ⟨rfl, hb'⟩)
        go_ret
        exact ⟨k, rfl, .inl ⟨k, rfl, hlt, by rw [← HXE.out]; exact HB1.out, fun m hm => HN.out.2 m _ hm⟩, HBb.out.trans (hb'.mono HBb.out.size)⟩
      | false =>
        have HB2 := Go.Lib.hid hb2
        clear hb2
        go_wp2_with (go_at_fn g; refine (HCL.out).mono ?_; rintro e w' ⟨rfl, hb'⟩)
        go_roundw
        case rel =>
          exact ⟨k + 1, by omega, by go_num, Go.Lib.hid ⟨by have := HB2.out; rw [if_neg (by decide)] at this; exact this, fun m hm hmk => (Nat.lt_succ_iff_lt_or_eq.1 hmk).elim (fun h => HN.out.2 m hm h) (fun h => by subst h; rw [← HXE.out]; exact HB1.out)⟩, Go.Lib.hid (HBb.out.trans (hb'.mono HBb.out.size))⟩
        case measure => simp [intOf]; omega
    · go_wp2
      go_ret
      exact ⟨-1, rfl, .inr ⟨rfl, fun x hx => by
        obtain ⟨m, hm, rfl⟩ := List.getElem_of_mem hx
        exact HN.out.2 m hm (by omega)⟩, HBb.out⟩
theorem comm_contains (p : S53 → Option Bool) (g : Nat) (lb : Array Value) (eg : ∀ args w, (callFunc g args).run Try.prog w = .ok (.enter g args) w) (A0 : Option Addr) (c0 : Nat) (l0 : List S53) (r : Bool) (w : World) (hr0 : Kd.C k53 w A0 l0.length l0) (hl : l0.length ≤ 9223372036854775807) (hp : comm_pred g lb p l0 w) (h : anyM p l0 = some r) :
    Calls Try.prog 58 #[.slice A0 l0.length c0, .func (.func g) #[] lb] w fun e w' => e = .returned (.bool r) ∧ Below w.heap.size w w' := by
  have HCON := Go.Lib.hid (comm_index p g lb eg A0 c0 l0 r w hr0 hl hp h)
  have H0 := Go.Lib.hid h
  clear hr0 hp h eg
  go_enter Try.func58, Try.ntmps58
  go_wp2_with (first | (go_at_call 73; refine HCON.out.mono ?_; rintro e w' ⟨i, rfl, hi, hb⟩; have HI := Go.Lib.hid (Option.some.inj ((idxAt_any hi).symm.trans H0.out)); clear hi))
  go_ret
  exact ⟨by rw [← HI.out]; rfl, hb⟩
/-! cond.Right of a condition on communities. -/
def commsRight (l : List S53) : Bool := decide (l.length ≤ 64) && !(l.any (fun e => decide (64 < e.f1.length)))
def cond_Right.f (a0_0 : Int) (l0_1 : List S92) (l0_2 : List S76) (l0_3 : List S53) (a0_4 a0_5 : Int) : Option Bool := if a0_0 = 3 then some (commsRight l0_3) else none
theorem right3_closure (x : S53) (A1 : Option Addr) (c1 : Nat) (W : World) : Calls Try.prog 59 #[.agg #[.bool x.f0, .slice A1 x.f1.length c1]] W fun e w' => e = .returned (.bool (decide (64 < x.f1.length))) ∧ Below W.heap.size W w' := by
  have hu := Try.underlying53
  have HB := Go.Lib.hid (Below.refl W.heap.size W)
  generalize x.f0 = b
  generalize x.f1.length = n
  go_enter Try.func59, Try.ntmps59
  go_wp2
  go_ret
  exact ⟨congrArg (fun b => Ending.returned (Value.bool b)) (by rw [decide_eq_decide]; omega), below_alloc HB.out _⟩
theorem cond_Right.calls (a0_0 : Int) (A0_1 : Option Addr) (c0_1 : Nat) (l0_1 : List S92) (A0_2 : Option Addr) (c0_2 : Nat) (l0_2 : List S76) (A0_3 : Option Addr) (c0_3 : Nat) (l0_3 : List S53) (a0_4 : Int) (a0_5 : Int) (r : Bool) (w : World) (hr0_1 : Kd.C k92 w A0_1 l0_1.length l0_1) (hc0_1 : l0_1.length ≤ c0_1) (hr0_2 : Kd.C k76 w A0_2 l0_2.length l0_2) (hc0_2 : l0_2.length ≤ c0_2) (hr0_3 : Kd.C k53 w A0_3 l0_3.length l0_3) (hc0_3 : l0_3.length ≤ c0_3) (h : cond_Right.f a0_0 l0_1 l0_2 l0_3 a0_4 a0_5 = some r) :
    Calls Try.prog 33 #[.agg #[.int .i64 a0_0, .slice A0_1 l0_1.length c0_1, .slice A0_2 l0_2.length c0_2, .slice A0_3 l0_3.length c0_3, .int .u32 a0_4, .int .u32 a0_5]] w fun e w' => e = .returned (.bool r) ∧ Below w.heap.size w w' := by
  have hu := Try.underlying58
  unfold cond_Right.f at h
  by_cases hk : a0_0 = 3
  · subst hk
    rw [if_pos rfl] at h
    have HRr := Go.Lib.hid (Option.some.inj h)
    clear h hr0_1 hr0_2 hc0_1 hc0_2
    generalize l0_1.length = n1
    generalize l0_2.length = n2
    have HB := Go.Lib.hid (Below.refl w.heap.size w)
    by_cases hl : l0_3.length ≤ 64
    · have hl' : decide ((l0_3.length : Int) ≤ 64) = true := decide_eq_true (by omega)
      have HCON := Go.Lib.hid (fun (w1 : World) (hb : Below w.heap.size w w1) => comm_contains (fun e => some (decide (64 < e.f1.length))) 59 #[] (enters_of Try.func59 (by kernel_rfl) rfl) A0_3 c0_3 l0_3 (l0_3.any (fun e => decide (64 < e.f1.length))) w1 (Kd.C_below hr0_3 hb) (by omega) (fun x hx b hb A1 c1 W hW _ _ => by
        rw [← Option.some.inj hb]
        exact right3_closure x A1 c1 W) (anyM_some _ _ l0_3 (fun _ _ => rfl)))
      have HRr2 := Go.Lib.hid (show (!(l0_3.any (fun e => decide (64 < e.f1.length)))) = r by
        rw [← HRr.out]
        unfold commsRight
        rw [decide_eq_true hl, Bool.true_and])
      clear hr0_3 hl HRr
      generalize l0_3.any (fun e => decide (64 < e.f1.length)) = q at HCON HRr2
      go_enter Try.func33, Try.ntmps33
      go_wp2_with (first | (go_at_call 58; refine (HCON.out _ (below_alloc HB.out _)).mono ?_; rintro e w' ⟨rfl, hb⟩; have HB2 := Go.Lib.hid hb; clear hb))
      go_ret
      exact ⟨congrArg (fun b => Ending.returned (Value.bool b)) HRr2.out, (below_alloc HB.out _).trans (HB2.out.mono (by simp))⟩
    · have hl' : decide ((l0_3.length : Int) ≤ 64) = false := decide_eq_false (by omega)
      have HRr2 := Go.Lib.hid (show false = r by
        rw [← HRr.out]
        unfold commsRight
        rw [decide_eq_false hl, Bool.false_and])
      clear hr0_3 hl HRr
      go_enter Try.func33, Try.ntmps33
      go_wp2
      go_ret
      exact ⟨congrArg (fun b => Ending.returned (Value.bool b)) HRr2.out, below_alloc HB.out _⟩
  · rw [if_neg hk] at h
    exact absurd h (by simp)
end Go.Proofs.Ytgelpccjdndfoaa.P
namespace Go.Proofs.Ytgelpccjdndfoaa.P
open Go.RowKit Go.Proofs.YtgelpccjdndfoaaW.PrintWords Go.Proofs.YtgelpccjdndfoaaW.PrintLast Go.Proofs.YtgelpccjdndfoaaW.PrintMore
attribute [local go_sem] max2_int min2_int max_two min_two max_three min_three max_four min_four
/-! ### slices_Index_uint32_uint32: function 51 -/
def q2z.l0 : Nat → List Int → Int → Int → Int → Option (Int)
 | 0, _, _, _, _ => none
 | k + 1, x0, x1, x7, x8 => if x8 < x7 then (if 0 ≤ x8 then (if x8 < (x0.length : Int) then (if x1 = (rd x0 x8) then (some x8) else (q2z.l0 k x0 x1 x7 (wrap64 (x8 + 1)))) else (none)) else (none)) else (some (-1))
def q2z.f (k : Nat) (l0 : List Int) (a1 : Int) : Option (Int) := q2z.l0 k l0 a1 (l0.length : Int) 0
theorem q2z.mono_l : ∀ k, (∀ y0 y1 y2 y3, LeO (q2z.l0 k y0 y1 y2 y3) (q2z.l0 (k + 1) y0 y1 y2 y3))
 | 0 => fun _ _ _ _ r h => by simp [q2z.l0] at h
 | k + 1 => by
  have ih0 := q2z.mono_l k
  ·
   intro y0 y1 y2 y3
   unfold q2z.l0
   repeat' first
   | (with_reducible exact ih0 _ _ _ _)
   | (with_reducible exact LeO.refl _)
   | (with_reducible exact LeO.none _)
   | (with_reducible refine LeO.ite ?_ ?_)
   | (with_reducible refine LeO.bind ?_ (fun _ => ?_))
   | exact ih0 _ _ _ _
   | exact LeO.none _
   | refine LeO.ite ?_ ?_
   | refine LeO.bind ?_ (fun _ => ?_)
theorem q2z.mono : ∀ a0 a1 k, LeO (q2z.f k a0 a1) (q2z.f (k + 1) a0 a1) := by
 intro a0 a1 k
 have ih0 := q2z.mono_l k
 unfold q2z.f
 repeat' first
   | (with_reducible exact ih0 _ _ _ _)
   | (with_reducible exact LeO.refl _)
   | (with_reducible exact LeO.none _)
   | (with_reducible refine LeO.ite ?_ ?_)
   | (with_reducible refine LeO.bind ?_ (fun _ => ?_))
   | exact ih0 _ _ _ _
   | exact LeO.none _
   | refine LeO.ite ?_ ?_
   | refine LeO.bind ?_ (fun _ => ?_)
set_option maxHeartbeats 8000000 in
set_option maxRecDepth 100000 in
theorem q2z.calls (k : Nat) (A0 : Option Addr) (c0 : Nat) (l0 : List Int) (a1 : Int) (r : Int) (w : World) (hr0 : Kd.C (Kd.int .u32) w A0 l0.length l0) (hc0 : l0.length ≤ c0) (h : q2z.f k l0 a1 = some r) :
  Calls Try.prog 51 #[.slice A0 l0.length c0, .int .u32 a1] w fun e w' => e = .returned (.int .i64 r) ∧ Drawn0 w w' := by
 have HR0 := Aside0.mk hr0
 have HC0 := Aside0.mk hc0
 clear hr0 hc0
 have H : (q2z.l0 k l0 a1 (l0.length : Int) 0) = some r := h
 clear h
 have H' := Aside0.mk H
 clear H
 go_enter Try.func51, Try.ntmps51
 go_wp2
 go_loopg [8] k (fun kq v8 w' => ∃ (x8_1 : Int), v8 = .int .i64 x8_1 ∧ Aside0 (q2z.l0 kq l0 a1 (l0.length : Int) x8_1 = some r) ∧ Aside0 (kq ≤ k) ∧ Drawn0 w w')
 case atStart => exact ⟨(0), (by first | rfl | (simp; done) | (simp [*]; done)), H', ⟨Nat.le_refl _⟩, by repeat (first | exact Drawn0.refl _ | apply Drawn0.step)⟩
 case round =>
  clear H'
  try clear p2
  obtain ⟨x8_1, rfl, HA, HK1, ⟨m1, rfl⟩⟩ := hrel
  cases gk with
  | zero => exact absurd HA.out (by simp [q2z.l0])
  | succ k1 =>
   have H := HA.out
   clear HA
   simp only [q2z.l0] at H
   by_cases c3 : x8_1 < (l0.length : Int)
   ·
    rw [if_pos c3] at H
    have c3b0 : decide (x8_1 < (l0.length : Int)) = true := decide_eq_true c3
    clear c3
    by_cases c4 : 0 ≤ x8_1
    ·
     rw [if_pos c4] at H
     have c4b0 : decide (0 ≤ x8_1) = true := decide_eq_true c4
     clear c4
     by_cases c5 : x8_1 < (l0.length : Int)
     ·
      rw [if_pos c5] at H
      have c5b0 : decide (x8_1 < (l0.length : Int)) = true := decide_eq_true c5
      clear c5
      by_cases c6 : a1 = (rd l0 x8_1)
      ·
       rw [if_pos c6] at H
       have c6b0 : (a1 == (rd l0 x8_1)) = true := beq_iff_eq.mpr c6
       have c6b1 : (a1 != (rd l0 x8_1)) = false := bne_eq_false_iff_eq.mpr c6
       clear c6
       obtain rfl := Option.some.inj H
       have p1 : 0 ≤ (x8_1 : Int) := of_decide_eq_true (by first | (with_reducible assumption) | assumption)
       have q1 : x8_1 < (l0.length : Int) := of_decide_eq_true (by first | (with_reducible assumption) | assumption)
       obtain ⟨ad1, e1, hx1_0⟩ := Kd.at_int HR0.out x8_1 p1 q1
       cases e1
       replace p1 := eq_true p1
       replace q1 := eq_true q1
       go_wp2
       go_ret
       exact ⟨by first | rfl | (simp; done) | (simp [*]; done), by repeat (first | exact Drawn0.refl _ | apply Drawn0.step)⟩
      ·
       rw [if_neg c6] at H
       have c6b0 : (a1 == (rd l0 x8_1)) = false := beq_eq_false_iff_ne.mpr c6
       have c6b1 : (a1 != (rd l0 x8_1)) = true := bne_iff_ne.mpr c6
       have H' := Aside0.mk H
       clear H
       have p1 : 0 ≤ (x8_1 : Int) := of_decide_eq_true (by first | (with_reducible assumption) | assumption)
       have q1 : x8_1 < (l0.length : Int) := of_decide_eq_true (by first | (with_reducible assumption) | assumption)
       obtain ⟨ad1, e1, hx1_0⟩ := Kd.at_int HR0.out x8_1 p1 q1
       cases e1
       replace p1 := eq_true p1
       replace q1 := eq_true q1
       go_wp2
       go_roundg k1
       case measure => have := HK1.out; omega
       case rel => exact ⟨(wrap64 (x8_1 + 1)), (by first | rfl | (simp; done) | (simp [*]; done)), H', ⟨by have := HK1.out; omega⟩, by repeat (first | exact Drawn0.refl _ | apply Drawn0.step)⟩
     ·
      rw [if_neg c5] at H
      exact absurd H (by simp)
    ·
     rw [if_neg c4] at H
     exact absurd H (by simp)
   ·
    rw [if_neg c3] at H
    have c3b0 : decide (x8_1 < (l0.length : Int)) = false := decide_eq_false c3
    clear c3
    obtain rfl := Option.some.inj H
    go_wp2
    go_ret
    exact ⟨by first | rfl | (simp; done) | (simp [*]; done), by repeat (first | exact Drawn0.refl _ | apply Drawn0.step)⟩

/-! ### slices_Contains_uint32_uint32: function 32 -/
def q3z.f (k : Nat) (l0 : List Int) (a1 : Int) : Option (Bool) := (q2z.f k l0 a1).bind fun t1 => (some (decide (t1 ≥ 0)))
theorem q3z.mono : ∀ a0 a1 k, LeO (q3z.f k a0 a1) (q3z.f (k + 1) a0 a1) := by
 intro a0 a1 k
 unfold q3z.f
 repeat' first
   | (with_reducible exact q2z.mono _ _ _)
   | (with_reducible exact LeO.refl _)
   | (with_reducible exact LeO.none _)
   | (with_reducible refine LeO.ite ?_ ?_)
   | (with_reducible refine LeO.bind ?_ (fun _ => ?_))
   | exact q2z.mono _ _ _
   | exact LeO.none _
   | refine LeO.ite ?_ ?_
   | refine LeO.bind ?_ (fun _ => ?_)
set_option maxHeartbeats 8000000 in
set_option maxRecDepth 100000 in
theorem q3z.calls (k : Nat) (A0 : Option Addr) (c0 : Nat) (l0 : List Int) (a1 : Int) (r : Bool) (w : World) (hr0 : Kd.C (Kd.int .u32) w A0 l0.length l0) (hc0 : l0.length ≤ c0) (h : q3z.f k l0 a1 = some r) :
  Calls Try.prog 32 #[.slice A0 l0.length c0, .int .u32 a1] w fun e w' => e = .returned (.bool r) ∧ Drawn0 w w' := by
 have HR0 := Aside0.mk hr0
 have HC0 := Aside0.mk hc0
 clear hr0 hc0
 have H : ((q2z.f k l0 a1).bind fun t1 => (some (decide (t1 ≥ 0)))) = some r := h
 clear h
 replace H := Option.bind_eq_some_iff.mp H
 obtain ⟨t1, A30, H⟩ := H
 replace H : (some (decide (t1 ≥ 0))) = some r := H
 have A3 := Aside0.mk A30
 clear A30
 obtain rfl := Option.some.inj H
 go_enter Try.func32, Try.ntmps32
 go_wp2_with (first | ((with_reducible refine gate_callee (f := 51) rfl ?_); refine goesL_ (some 7) rfl rfl Try.func51 (by kernel_rfl) rfl #[.slice A0 l0.length c0, .int .u32 a1] rfl (by (try simp only [List.map_toArray, List.map_cons, List.map_nil]); first | done | rfl | (simp only [List.length_drop, List.length_take]; rfl)) ?_; (with_reducible refine (q2z.calls k _ _ l0 a1 t1 _ ?side1 ?side2 A3.out).mono ?_); (case side1 => repeat (first | exact HR0.out | (with_reducible refine Kd.C_alloc ?_ _) | (with_reducible refine Kd.C_drewN ?_ _) | (with_reducible refine Kd.C_drew ?_))); (case side2 => exact HC0.out); rintro e w' ⟨rfl, ⟨nd, rfl⟩⟩; refine ⟨_, rfl, ?_⟩))
 go_ret
 exact ⟨by first | rfl | (simp; done) | (simp [*]; done), by repeat (first | exact Drawn0.refl _ | apply Drawn0.step)⟩

/-! ### act_Right: function 14 -/
mutual
def q4z.j0 : Nat → Bool → Int → Bool → Int → Int → List Int → List (S53) → Option (Bool)
 | 0, _, _, _, _, _, _, _ => none
 | k + 1, x3, x9, x10, x2000, x2001, x2002, x2003 => if x10 = true then (some true) else (if x9 = 3 then (some (decide (x2001 ≤ 2))) else (if x9 = 5 then (if x3 = true then ((q3z.f k x2002 0).bind fun t2 => (some (!t2))) else (some false)) else (if x9 = 6 then (q4z.j1 k x3 x9 (x9 == 6) x2000 x2001 x2002 x2003) else (q4z.j1 k x3 x9 (x9 == 7) x2000 x2001 x2002 x2003))))
def q4z.j1 : Nat → Bool → Int → Bool → Int → Int → List Int → List (S53) → Option (Bool)
 | 0, _, _, _, _, _, _, _ => none
 | k + 1, x3, x9, x28, x2000, x2001, x2002, x2003 => if x28 = true then (some x3) else (if x9 = 8 then ((cond_Right.f 3 ([] : List (S92)) ([] : List (S76)) x2003 0 0).bind fun t3 => (some t3)) else (some false))
end
def q4z.f (k : Nat) (a0_0 : Int) (a0_1 : Int) (l0_2 : List Int) (l0_3 : List (S53)) : Option (Bool) := if a0_0 = 1 then (q4z.j0 k (decide ((l0_2.length : Int) ≤ 64)) a0_0 (a0_0 == 1) a0_0 a0_1 l0_2 l0_3) else (if a0_0 = 2 then (q4z.j0 k (decide ((l0_2.length : Int) ≤ 64)) a0_0 (a0_0 == 2) a0_0 a0_1 l0_2 l0_3) else (q4z.j0 k (decide ((l0_2.length : Int) ≤ 64)) a0_0 (a0_0 == 4) a0_0 a0_1 l0_2 l0_3))
theorem q4z.mono_l : ∀ k, (∀ y0 y1 y2 y3 y4 y5 y6, LeO (q4z.j0 k y0 y1 y2 y3 y4 y5 y6) (q4z.j0 (k + 1) y0 y1 y2 y3 y4 y5 y6)) ∧ (∀ y0 y1 y2 y3 y4 y5 y6, LeO (q4z.j1 k y0 y1 y2 y3 y4 y5 y6) (q4z.j1 (k + 1) y0 y1 y2 y3 y4 y5 y6))
 | 0 => ⟨fun _ _ _ _ _ _ _ r h => by simp [q4z.j0] at h, fun _ _ _ _ _ _ _ r h => by simp [q4z.j1] at h⟩
 | k + 1 => by
  obtain ⟨ih0, ih1⟩ := q4z.mono_l k
  refine ⟨?_, ?_⟩
  ·
   intro y0 y1 y2 y3 y4 y5 y6
   unfold q4z.j0
   repeat' first
   | (with_reducible exact ih0 _ _ _ _ _ _ _)
   | (with_reducible exact ih1 _ _ _ _ _ _ _)
   | (with_reducible exact q3z.mono _ _ _)
   | (with_reducible exact LeO.refl _)
   | (with_reducible exact LeO.none _)
   | (with_reducible refine LeO.ite ?_ ?_)
   | (with_reducible refine LeO.bind ?_ (fun _ => ?_))
   | exact ih0 _ _ _ _ _ _ _
   | exact ih1 _ _ _ _ _ _ _
   | exact q3z.mono _ _ _
   | exact LeO.none _
   | refine LeO.ite ?_ ?_
   | refine LeO.bind ?_ (fun _ => ?_)
  ·
   intro y0 y1 y2 y3 y4 y5 y6
   unfold q4z.j1
   repeat' first
   | (with_reducible exact ih0 _ _ _ _ _ _ _)
   | (with_reducible exact ih1 _ _ _ _ _ _ _)
   | (with_reducible exact q3z.mono _ _ _)
   | (with_reducible exact LeO.refl _)
   | (with_reducible exact LeO.none _)
   | (with_reducible refine LeO.ite ?_ ?_)
   | (with_reducible refine LeO.bind ?_ (fun _ => ?_))
   | exact ih0 _ _ _ _ _ _ _
   | exact ih1 _ _ _ _ _ _ _
   | exact q3z.mono _ _ _
   | exact LeO.none _
   | refine LeO.ite ?_ ?_
   | refine LeO.bind ?_ (fun _ => ?_)
theorem q4z.mono : ∀ a0 a1 a2 a3 k, LeO (q4z.f k a0 a1 a2 a3) (q4z.f (k + 1) a0 a1 a2 a3) := by
 intro a0 a1 a2 a3 k
 obtain ⟨ih0, ih1⟩ := q4z.mono_l k
 unfold q4z.f
 repeat' first
   | (with_reducible exact ih0 _ _ _ _ _ _ _)
   | (with_reducible exact ih1 _ _ _ _ _ _ _)
   | (with_reducible exact q3z.mono _ _ _)
   | (with_reducible exact LeO.refl _)
   | (with_reducible exact LeO.none _)
   | (with_reducible refine LeO.ite ?_ ?_)
   | (with_reducible refine LeO.bind ?_ (fun _ => ?_))
   | exact ih0 _ _ _ _ _ _ _
   | exact ih1 _ _ _ _ _ _ _
   | exact q3z.mono _ _ _
   | exact LeO.none _
   | refine LeO.ite ?_ ?_
   | refine LeO.bind ?_ (fun _ => ?_)
set_option maxHeartbeats 8000000 in
set_option maxRecDepth 100000 in
theorem q4z.calls (k : Nat) (a0_0 : Int) (a0_1 : Int) (A0_2 : Option Addr) (c0_2 : Nat) (l0_2 : List Int) (A0_3 : Option Addr) (c0_3 : Nat) (l0_3 : List (S53)) (r : Bool) (w : World) (hr0_2 : Kd.C (Kd.int .u32) w A0_2 l0_2.length l0_2) (hc0_2 : l0_2.length ≤ c0_2) (hr0_3 : Kd.C k53 w A0_3 l0_3.length l0_3) (hc0_3 : l0_3.length ≤ c0_3) (h : q4z.f k a0_0 a0_1 l0_2 l0_3 = some r) :
  Calls Try.prog 14 #[.agg #[.int .i64 a0_0, .int .u32 a0_1, .slice A0_2 l0_2.length c0_2, .slice A0_3 l0_3.length c0_3]] w fun e w' => e = .returned (.bool r) ∧ Below w.heap.size w w' := by
 have hu26 := Try.underlying26
 have hu58 := Try.underlying58
 have HR0_2 := Aside0.mk hr0_2
 have HC0_2 := Aside0.mk hc0_2
 clear hr0_2 hc0_2
 have HR0_3 := Aside0.mk hr0_3
 have HC0_3 := Aside0.mk hc0_3
 clear hr0_3 hc0_3
 have HB := Aside0.mk (Below.refl w.heap.size w)
 have H : (if a0_0 = 1 then (q4z.j0 k (decide ((l0_2.length : Int) ≤ 64)) a0_0 (a0_0 == 1) a0_0 a0_1 l0_2 l0_3) else (if a0_0 = 2 then (q4z.j0 k (decide ((l0_2.length : Int) ≤ 64)) a0_0 (a0_0 == 2) a0_0 a0_1 l0_2 l0_3) else (q4z.j0 k (decide ((l0_2.length : Int) ≤ 64)) a0_0 (a0_0 == 4) a0_0 a0_1 l0_2 l0_3))) = some r := h
 clear h
 have HC2 := Aside0.mk H
 clear H
 go_enter Try.func14, Try.ntmps14
 go_upto_if 10 with (first | ((with_reducible refine gate_dst (N := 1) rfl ?_); refine box_event ?hg (N := 1) ?hd (cs := #[.int .i64 a0_0, .int .u32 a0_1, .slice A0_2 l0_2.length c0_2, .slice A0_3 l0_3.length c0_3]) (t := 26) ?hr ?_; (case hd => rfl); (case hg => rfl); (case hr => first | (go_simp; done) | (go_simp; rfl)); intro gb1 hg w3 hbox hb; have BK1 := Aside0.mk (hbox); have GW1 := gwS hg HB; have GE1 := gwS hg HB; replace HB := hbS HB hb; clear hb hbox hg; obtain ⟨hcz4_0, hcz4_1, hcz4_2, hcz4_3, hfz4_0, hfz4_1, hfz4_2, hfz4_3⟩ := bc4 BK1))
 (try simp only [Act.put, List.setIfInBounds_toArray, List.set_cons_zero, List.set_cons_succ])
 go_cut [10] (fun v10 wc => ∃ (kq : Nat) (x10_1 : Bool), v10 = .bool x10_1 ∧ Aside0 (q4z.j0 kq (decide ((l0_2.length : Int) ≤ 64)) a0_0 x10_1 a0_0 a0_1 l0_2 l0_3 = some r) ∧ Aside0 (kq ≤ k) ∧ Aside0 (wc.heap[gb1]? = some (.cells #[.int .i64 a0_0, .int .u32 a0_1, (.slice A0_2 l0_2.length c0_2), (.slice A0_3 l0_3.length c0_3)] 26 (0, 0))) ∧ Aside0 (Below w.heap.size w wc))
 case first =>
  have H := HC2.out
  clear HC2
  by_cases c5 : a0_0 = 1
  ·
   rw [if_pos c5] at H
   have c5b0 : (a0_0 == 1) = true := beq_iff_eq.mpr c5
   have c5b1 : (a0_0 != 1) = false := bne_eq_false_iff_eq.mpr c5
   clear c5
   (first | rw [c5b0] | (simp only [i64_w, i32_w, IntKind.wrap_u32]; rw [c5b0]) | skip)
   have H' := Aside0.mk H
   clear H
   go_wp2
   go_meet
   case rel => exact ⟨_, ((a0_0 == 1)), (by first | rfl | (simp; done) | (simp [*]; done)), H', ⟨by first | omega | exact Nat.le_refl _⟩, ⟨by (with_reducible repeat (first | refine blk_drewN ?_ _ | refine blk_drew ?_ | refine blk_alloc ?_ _)); exact BK1.out⟩, ⟨hbW HB⟩⟩
  ·
   rw [if_neg c5] at H
   have c5b0 : (a0_0 == 1) = false := beq_eq_false_iff_ne.mpr c5
   have c5b1 : (a0_0 != 1) = true := bne_iff_ne.mpr c5
   (first | rw [c5b0] | (simp only [i64_w, i32_w, IntKind.wrap_u32]; rw [c5b0]) | skip)
   by_cases c6 : a0_0 = 2
   ·
    rw [if_pos c6] at H
    have c6b0 : (a0_0 == 2) = true := beq_iff_eq.mpr c6
    have c6b1 : (a0_0 != 2) = false := bne_eq_false_iff_eq.mpr c6
    clear c6
    have H' := Aside0.mk H
    clear H
    go_wp2
    go_meet
    case rel => exact ⟨_, ((a0_0 == 2)), (by first | rfl | (simp; done) | (simp [*]; done)), H', ⟨by first | omega | exact Nat.le_refl _⟩, ⟨by (with_reducible repeat (first | refine blk_drewN ?_ _ | refine blk_drew ?_ | refine blk_alloc ?_ _)); exact BK1.out⟩, ⟨hbW HB⟩⟩
   ·
    rw [if_neg c6] at H
    have c6b0 : (a0_0 == 2) = false := beq_eq_false_iff_ne.mpr c6
    have c6b1 : (a0_0 != 2) = true := bne_iff_ne.mpr c6
    have H' := Aside0.mk H
    clear H
    go_wp2
    go_meet
    case rel => exact ⟨_, ((a0_0 == 4)), (by first | rfl | (simp; done) | (simp [*]; done)), H', ⟨by first | omega | exact Nat.le_refl _⟩, ⟨by (with_reducible repeat (first | refine blk_drewN ?_ _ | refine blk_drew ?_ | refine blk_alloc ?_ _)); exact BK1.out⟩, ⟨hbW HB⟩⟩
 case rest =>
  clear HC2
  try clear c1
  try clear p2
  try clear c5
  try clear c5b0
  try clear c5b1
  try clear c6
  try clear c6b0
  try clear c6b1
  try clear hcz4_0 hcz4_1 hcz4_2 hcz4_3
  try clear hfz4_0 hfz4_1 hfz4_2 hfz4_3
  obtain ⟨kq, x10_1, rfl, HA, HJ1, BK1, HB⟩ := hcut
  cases kq with
  | zero => exact absurd HA.out (by simp [q4z.j0])
  | succ kj1 =>
   have H := HA.out
   clear HA
   simp only [q4z.j0] at H
   by_cases c7 : x10_1 = true
   ·
    subst c7
    have H1 : (some true) = some r := by rw [if_pos rfl] at H; exact H
    clear H
    have H := H1
    clear H1
    obtain rfl := Option.some.inj H
    go_wp2
    go_ret
    exact ⟨by first | rfl | (simp [errW_none, errW_some] <;> rfl) | (simp [*, errW_none, errW_some] <;> rfl), hbW HB⟩
   ·
    replace c7 := Bool.eq_false_iff.mpr c7
    subst c7
    have H1 : (if a0_0 = 3 then (some (decide (a0_1 ≤ 2))) else (if a0_0 = 5 then (if (decide ((l0_2.length : Int) ≤ 64)) = true then ((q3z.f kj1 l0_2 0).bind fun t2 => (some (!t2))) else (some false)) else (if a0_0 = 6 then (q4z.j1 kj1 (decide ((l0_2.length : Int) ≤ 64)) a0_0 (a0_0 == 6) a0_0 a0_1 l0_2 l0_3) else (q4z.j1 kj1 (decide ((l0_2.length : Int) ≤ 64)) a0_0 (a0_0 == 7) a0_0 a0_1 l0_2 l0_3)))) = some r := by rw [if_neg (show ¬ (false = true) by decide)] at H; exact H
    clear H
    have H := H1
    clear H1
    by_cases c8 : a0_0 = 3
    ·
     rw [if_pos c8] at H
     have c8b0 : (a0_0 == 3) = true := beq_iff_eq.mpr c8
     have c8b1 : (a0_0 != 3) = false := bne_eq_false_iff_eq.mpr c8
     clear c8
     obtain rfl := Option.some.inj H
     obtain ⟨hcz9_0, hcz9_1, hcz9_2, hcz9_3, hfz9_0, hfz9_1, hfz9_2, hfz9_3⟩ := bc4 BK1
     go_wp2
     go_ret
     exact ⟨by first | rfl | (simp [errW_none, errW_some] <;> rfl) | (simp [*, errW_none, errW_some] <;> rfl), hbW HB⟩
    ·
     rw [if_neg c8] at H
     have c8b0 : (a0_0 == 3) = false := beq_eq_false_iff_ne.mpr c8
     have c8b1 : (a0_0 != 3) = true := bne_iff_ne.mpr c8
     by_cases c10 : a0_0 = 5
     ·
      rw [if_pos c10] at H
      have c10b0 : (a0_0 == 5) = true := beq_iff_eq.mpr c10
      have c10b1 : (a0_0 != 5) = false := bne_eq_false_iff_eq.mpr c10
      clear c10
      by_cases c11 : (decide ((l0_2.length : Int) ≤ 64)) = true
      ·
       rw [if_pos c11] at H
       have c11b0 : (decide ((l0_2.length : Int) ≤ 64)) = true := c11
       clear c11
       replace H := Option.bind_eq_some_iff.mp H
       obtain ⟨t2, A120, H⟩ := H
       replace H : (some (!t2)) = some r := H
       have A12 := Aside0.mk A120
       clear A120
       obtain rfl := Option.some.inj H
       obtain ⟨hcz13_0, hcz13_1, hcz13_2, hcz13_3, hfz13_0, hfz13_1, hfz13_2, hfz13_3⟩ := bc4 BK1
       go_wp2_with (first | (go_at_call 32; (with_reducible refine (q3z.calls kj1 _ _ l0_2 0 t2 _ ?side1 ?side2 A12.out).mono ?_); (case side1 => repeat (first | exact (Kd.C_below HR0_2.out HB.out) | (with_reducible refine Kd.C_alloc ?_ _) | (with_reducible refine Kd.C_drewN ?_ _) | (with_reducible refine Kd.C_drew ?_))); (case side2 => exact HC0_2.out); rintro e w' ⟨rfl, ⟨nd, rfl⟩⟩))
       go_ret
       exact ⟨by first | rfl | (simp [errW_none, errW_some] <;> rfl) | (simp [*, errW_none, errW_some] <;> rfl), hbW HB⟩
      ·
       rw [if_neg c11] at H
       have c11b0 : (decide ((l0_2.length : Int) ≤ 64)) = false := by simpa using c11
       clear c11
       obtain rfl := Option.some.inj H
       go_wp2
       go_ret
       exact ⟨by first | rfl | (simp [errW_none, errW_some] <;> rfl) | (simp [*, errW_none, errW_some] <;> rfl), hbW HB⟩
     ·
      rw [if_neg c10] at H
      have c10b0 : (a0_0 == 5) = false := beq_eq_false_iff_ne.mpr c10
      have c10b1 : (a0_0 != 5) = true := bne_iff_ne.mpr c10
      have HC14 := Aside0.mk H
      clear H
      go_upto_if 28 with (fail)
      go_cut [28] (fun v28 wc => ∃ (kq : Nat) (x28_13 : Bool), v28 = .bool x28_13 ∧ Aside0 (q4z.j1 kq (decide ((l0_2.length : Int) ≤ 64)) a0_0 x28_13 a0_0 a0_1 l0_2 l0_3 = some r) ∧ Aside0 (kq ≤ kj1) ∧ Aside0 (wc.heap[gb1]? = some (.cells #[.int .i64 a0_0, .int .u32 a0_1, (.slice A0_2 l0_2.length c0_2), (.slice A0_3 l0_3.length c0_3)] 26 (0, 0))) ∧ Aside0 (Below w.heap.size w wc))
      case first =>
       have H := HC14.out
       clear HC14
       by_cases c15 : a0_0 = 6
       ·
        rw [if_pos c15] at H
        have c15b0 : (a0_0 == 6) = true := beq_iff_eq.mpr c15
        have c15b1 : (a0_0 != 6) = false := bne_eq_false_iff_eq.mpr c15
        clear c15
        (first | rw [c15b0] | (simp only [i64_w, i32_w, IntKind.wrap_u32]; rw [c15b0]) | skip)
        have H' := Aside0.mk H
        clear H
        go_wp2
        go_meet
        case rel => exact ⟨_, ((a0_0 == 6)), (by first | rfl | (simp; done) | (simp [*]; done)), H', ⟨by have := HJ1.out; first | omega | exact Nat.le_refl _⟩, ⟨by (with_reducible repeat (first | refine blk_drewN ?_ _ | refine blk_drew ?_ | refine blk_alloc ?_ _)); exact BK1.out⟩, ⟨hbW HB⟩⟩
       ·
        rw [if_neg c15] at H
        have c15b0 : (a0_0 == 6) = false := beq_eq_false_iff_ne.mpr c15
        have c15b1 : (a0_0 != 6) = true := bne_iff_ne.mpr c15
        (first | rw [c15b0] | (simp only [i64_w, i32_w, IntKind.wrap_u32]; rw [c15b0]) | skip)
        have H' := Aside0.mk H
        clear H
        go_wp2
        go_meet
        case rel => exact ⟨_, ((a0_0 == 7)), (by first | rfl | (simp; done) | (simp [*]; done)), H', ⟨by have := HJ1.out; first | omega | exact Nat.le_refl _⟩, ⟨by (with_reducible repeat (first | refine blk_drewN ?_ _ | refine blk_drew ?_ | refine blk_alloc ?_ _)); exact BK1.out⟩, ⟨hbW HB⟩⟩
      case rest =>
       clear HC14
       try clear c1
       try clear p2
       try clear c5
       try clear c5b0
       try clear c5b1
       try clear c6
       try clear c6b0
       try clear c6b1
       try clear c7
       try clear c8
       try clear c8b0
       try clear c8b1
       try clear c10
       try clear c10b0
       try clear c10b1
       try clear c11
       try clear c11b0
       try clear c14
       try clear c15
       try clear c15b0
       try clear c15b1
       try clear hcz13_0 hcz13_1 hcz13_2 hcz13_3
       try clear hcz4_0 hcz4_1 hcz4_2 hcz4_3
       try clear hcz9_0 hcz9_1 hcz9_2 hcz9_3
       try clear hfz13_0 hfz13_1 hfz13_2 hfz13_3
       try clear hfz4_0 hfz4_1 hfz4_2 hfz4_3
       try clear hfz9_0 hfz9_1 hfz9_2 hfz9_3
       try clear p2
       obtain ⟨kq, x28_13, rfl, HA, HJ13, BK1, HB⟩ := hcut
       cases kq with
       | zero => exact absurd HA.out (by simp [q4z.j1])
       | succ kj13 =>
        have H := HA.out
        clear HA
        simp only [q4z.j1] at H
        by_cases c16 : x28_13 = true
        ·
         subst c16
         have H1 : (some (decide ((l0_2.length : Int) ≤ 64))) = some r := by rw [if_pos rfl] at H; exact H
         clear H
         have H := H1
         clear H1
         obtain rfl := Option.some.inj H
         go_wp2
         go_ret
         exact ⟨by first | rfl | (simp [errW_none, errW_some] <;> rfl) | (simp [*, errW_none, errW_some] <;> rfl), hbW HB⟩
        ·
         replace c16 := Bool.eq_false_iff.mpr c16
         subst c16
         have H1 : (if a0_0 = 8 then ((cond_Right.f 3 ([] : List (S92)) ([] : List (S76)) l0_3 0 0).bind fun t3 => (some t3)) else (some false)) = some r := by rw [if_neg (show ¬ (false = true) by decide)] at H; exact H
         clear H
         have H := H1
         clear H1
         by_cases c17 : a0_0 = 8
         ·
          rw [if_pos c17] at H
          have c17b0 : (a0_0 == 8) = true := beq_iff_eq.mpr c17
          have c17b1 : (a0_0 != 8) = false := bne_eq_false_iff_eq.mpr c17
          clear c17
          replace H := Option.bind_eq_some_iff.mp H
          obtain ⟨t3, A180, H⟩ := H
          replace H : (some t3) = some r := H
          have A18 := Aside0.mk A180
          clear A180
          obtain rfl := Option.some.inj H
          obtain ⟨hcz19_0, hcz19_1, hcz19_2, hcz19_3, hfz19_0, hfz19_1, hfz19_2, hfz19_3⟩ := bc4 BK1
          go_wp2_with (first | ((with_reducible refine gate_callee (f := 33) rfl ?_); refine goesL_ (some 37) rfl rfl Try.func33 (by kernel_rfl) rfl #[.agg #[.int .i64 3, .slice none 0 0, .slice none 0 0, .slice A0_3 l0_3.length c0_3, .int .u32 0, .int .u32 0]] rfl (by (try simp only [List.map_toArray, List.map_cons, List.map_nil]); first | done | rfl | (simp only [List.length_drop, List.length_take]; rfl)) ?_; (refine (cond_Right.calls 3 _ _ ([] : List (S92)) _ _ ([] : List (S76)) _ _ l0_3 0 0 t3 _ ?side1 ?side2 ?side3 ?side4 ?side5 ?side6 A18.out).mono ?_); (case side1 => exact Kd.C_nil _ _); (case side2 => exact Nat.le_refl _); (case side3 => exact Kd.C_nil _ _); (case side4 => exact Nat.le_refl _); (case side5 => repeat (first | exact (Kd.C_below HR0_3.out HB.out) | (with_reducible refine Kd.C_alloc ?_ _) | (with_reducible refine Kd.C_drewN ?_ _) | (with_reducible refine Kd.C_drew ?_))); (case side6 => exact HC0_3.out); rintro e w20 ⟨rfl, hb⟩; refine ⟨_, rfl, ?_⟩; replace BK1 := bkB BK1 hb; replace HB := hbS HB hb; (try clear hb)))
          go_ret
          exact ⟨by first | rfl | (simp [errW_none, errW_some] <;> rfl) | (simp [*, errW_none, errW_some] <;> rfl), hbW HB⟩
         ·
          rw [if_neg c17] at H
          have c17b0 : (a0_0 == 8) = false := beq_eq_false_iff_ne.mpr c17
          have c17b1 : (a0_0 != 8) = true := bne_iff_ne.mpr c17
          obtain rfl := Option.some.inj H
          go_wp2
          go_ret
          exact ⟨by first | rfl | (simp [errW_none, errW_some] <;> rfl) | (simp [*, errW_none, errW_some] <;> rfl), hbW HB⟩

/-! ### route_Copy: function 26 -/
def q5z.f (a0_0 : Int) (a0_1 : Int) (l0_2 : List Int) (l0_3 : List Int) (a0_4 : Int) (a0_5 : Int) (a0_6 : Int) (a0_7 : Int) : Option (Int × Int × List Int × List Int × Int × Int × Int × Int) := (some (([] : List Int) : List Int)).bind fun y3 => (if y3.length + l0_2.length < 35184372088832 then ((some (([] : List Int) : List Int)).bind fun y9 => (if y9.length + l0_3.length < 35184372088832 then (some (a0_0, a0_1, (y3 ++ l0_2), (y9 ++ l0_3), a0_4, a0_5, a0_6, a0_7)) else (none))) else (none))
set_option maxHeartbeats 8000000 in
set_option maxRecDepth 100000 in
theorem q5z.calls (a0_0 : Int) (a0_1 : Int) (A0_2 : Option Addr) (c0_2 : Nat) (l0_2 : List Int) (A0_3 : Option Addr) (c0_3 : Nat) (l0_3 : List Int) (a0_4 : Int) (a0_5 : Int) (a0_6 : Int) (a0_7 : Int) (r1 : Int) (r2 : Int) (r3 : List Int) (r4 : List Int) (r5 : Int) (r6 : Int) (r7 : Int) (r8 : Int) (w : World) (hr0_2 : Kd.C (Kd.int .u32) w A0_2 l0_2.length l0_2) (hc0_2 : l0_2.length ≤ c0_2) (hr0_3 : Kd.C (Kd.int .u32) w A0_3 l0_3.length l0_3) (hc0_3 : l0_3.length ≤ c0_3) (h : q5z.f a0_0 a0_1 l0_2 l0_3 a0_4 a0_5 a0_6 a0_7 = some (r1, r2, r3, r4, r5, r6, r7, r8)) :
  Calls Try.prog 26 #[.agg #[.int .u32 a0_0, .int .i64 a0_1, .slice A0_2 l0_2.length c0_2, .slice A0_3 l0_3.length c0_3, .int .u32 a0_4, .int .u32 a0_5, .int .i64 a0_6, .int .u32 a0_7]] w fun e w' => ∃ v2_ v3_ : Value, e = .returned (.agg #[.int .u32 r1, .int .i64 r2, v2_, v3_, .int .u32 r5, .int .u32 r6, .int .i64 r7, .int .u32 r8]) ∧ Kd.R (Kd.int .u32) 22 w' w.heap.size (fun k_ => some k_ ≠ (v3_ : Value).ownBlock) v2_ r3 ∧ Kd.R (Kd.int .u32) 22 w' w.heap.size (fun k_ => some k_ ≠ (v2_ : Value).ownBlock) v3_ r4 ∧ Below w.heap.size w w' := by
 have hu30 := Try.underlying30
 have HR0_2 := Aside0.mk hr0_2
 have HC0_2 := Aside0.mk hc0_2
 clear hr0_2 hc0_2
 have HR0_3 := Aside0.mk hr0_3
 have HC0_3 := Aside0.mk hc0_3
 clear hr0_3 hc0_3
 have HB := Aside0.mk (Below.refl w.heap.size w)
 have H : ((some (([] : List Int) : List Int)).bind fun y3 => (if y3.length + l0_2.length < 35184372088832 then ((some (([] : List Int) : List Int)).bind fun y9 => (if y9.length + l0_3.length < 35184372088832 then (some (a0_0, a0_1, (y3 ++ l0_2), (y9 ++ l0_3), a0_4, a0_5, a0_6, a0_7)) else (none))) else (none))) = some (r1, r2, r3, r4, r5, r6, r7, r8) := h
 clear h
 obtain ⟨y3, hy3⟩ : ∃ y_ : List Int, y_ = (([] : List Int)) := ⟨_, rfl⟩
 replace H : (if y3.length + l0_2.length < 35184372088832 then ((some (([] : List Int) : List Int)).bind fun y9 => (if y9.length + l0_3.length < 35184372088832 then (some (a0_0, a0_1, (y3 ++ l0_2), (y9 ++ l0_3), a0_4, a0_5, a0_6, a0_7)) else (none))) else (none)) = some (r1, r2, r3, r4, r5, r6, r7, r8) := by first | (rw [hy3]; with_reducible exact H) | (have H2_ := (Option.bind_some _ _).symm.trans H; rw [hy3]; with_reducible exact H2_) | (have H2_ := (Option.bind_some _ _).symm.trans H; with_reducible exact H2_) | with_reducible exact H | (rw [hy3]; exact H) | exact H
 have Ny3 := Aside0.mk hy3
 clear hy3
 by_cases c2 : y3.length + l0_2.length < 35184372088832
 ·
  rw [if_pos c2] at H
  have LMc2 := Aside0.mk c2
  clear c2
  obtain ⟨y6, hy6⟩ : ∃ y_ : List Int, y_ = (y3 ++ l0_2) := ⟨_, rfl⟩
  replace H : ((some (([] : List Int) : List Int)).bind fun y9 => (if y9.length + l0_3.length < 35184372088832 then (some (a0_0, a0_1, y6, (y9 ++ l0_3), a0_4, a0_5, a0_6, a0_7)) else (none))) = some (r1, r2, r3, r4, r5, r6, r7, r8) := by first | (rw [hy6]; with_reducible exact H) | (have H2_ := (Option.bind_some _ _).symm.trans H; rw [hy6]; with_reducible exact H2_) | (have H2_ := (Option.bind_some _ _).symm.trans H; with_reducible exact H2_) | with_reducible exact H | (rw [hy6]; exact H) | exact H
  have Ny6 := Aside0.mk hy6
  clear hy6
  obtain ⟨y9, hy9⟩ : ∃ y_ : List Int, y_ = (([] : List Int)) := ⟨_, rfl⟩
  replace H : (if y9.length + l0_3.length < 35184372088832 then (some (a0_0, a0_1, y6, (y9 ++ l0_3), a0_4, a0_5, a0_6, a0_7)) else (none)) = some (r1, r2, r3, r4, r5, r6, r7, r8) := by first | (rw [hy9]; with_reducible exact H) | (have H2_ := (Option.bind_some _ _).symm.trans H; rw [hy9]; with_reducible exact H2_) | (have H2_ := (Option.bind_some _ _).symm.trans H; with_reducible exact H2_) | with_reducible exact H | (rw [hy9]; exact H) | exact H
  have Ny9 := Aside0.mk hy9
  clear hy9
  by_cases c3 : y9.length + l0_3.length < 35184372088832
  ·
   rw [if_pos c3] at H
   have LMc3 := Aside0.mk c3
   clear c3
   obtain ⟨y12, hy12⟩ : ∃ y_ : List Int, y_ = (y9 ++ l0_3) := ⟨_, rfl⟩
   replace H : (some (a0_0, a0_1, y6, y12, a0_4, a0_5, a0_6, a0_7)) = some (r1, r2, r3, r4, r5, r6, r7, r8) := by first | (rw [hy12]; with_reducible exact H) | (have H2_ := (Option.bind_some _ _).symm.trans H; rw [hy12]; with_reducible exact H2_) | (have H2_ := (Option.bind_some _ _).symm.trans H; with_reducible exact H2_) | with_reducible exact H | (rw [hy12]; exact H) | exact H
   have Ny12 := Aside0.mk hy12
   clear hy12
   simp only [Option.some.injEq, Prod.mk.injEq] at H
   obtain ⟨rfl, rfl, rfl, rfl, rfl, rfl, rfl, rfl⟩ := H
   go_enter Try.func26, Try.ntmps26
   go_wp2_with (first | ((with_reducible refine gate_dst (N := 1) rfl ?_); refine box_event ?hg (N := 1) ?hd (cs := #[.int .u32 a0_0, .int .i64 a0_1, .slice A0_2 l0_2.length c0_2, .slice A0_3 l0_3.length c0_3, .int .u32 a0_4, .int .u32 a0_5, .int .i64 a0_6, .int .u32 a0_7]) (t := 30) ?hr ?_; (case hd => rfl); (case hg => rfl); (case hr => first | (go_simp; done) | (go_simp; rfl)); intro gb1 hg w4 hbox hb; have BK1 := Aside0.mk (hbox); have GW1 := gwS hg HB; have GE1 := gwS hg HB; replace HB := hbS HB hb; clear hb hbox hg) | ((with_reducible refine gate_dst (N := 2) rfl ?_); refine box_event ?hg (N := 2) ?hd (cs := #[.int .u32 0, .int .i64 0, .slice none 0 0, .slice none 0 0, .int .u32 0, .int .u32 0, .int .i64 0, .int .u32 0]) (t := 30) ?hr ?_; (case hd => rfl); (case hg => rfl); (case hr => first | (go_simp; done) | (go_simp; rfl)); intro gb2 hg w5 hbox hb; have BK2 := Aside0.mk (hbox); have GW2 := gwS hg HB; have GE2 := gwS hg HB; have NB1_2 := nbL hg BK1; have NB2_1 := nbG hg BK1; replace BK1 := bkB BK1 hb; replace HB := hbS HB hb; clear hb hbox hg) | ((with_reducible refine gate_dst (N := 3) rfl ?_); refine Kd.R_lit (Kd.int .u32) _ 22 ?hg (N := 3) ?hd (xs := ([] : List Int)) (inner := []) (ok := fun _ => True) (okp := fun _ => True) ?hr ?hp (fun _ hk => hk) trivial (Below.refl _ _) (Nat.le_refl _) (by simp) ?_; (case hd => rfl); (case hg => rfl); (case hr => first | (go_simp; done) | (go_simp; rfl)); (case hp => exact (Reps.none _ _)); intro v4 w6 ho7 hb hg_ hnew_; clear hg_ hnew_; (first | rw [← Ny3.out] at ho7 | (simp only [Int.reduceToNat] at ho7; rw [← Ny3.out] at ho7)); have HO5 := Aside0.mk (Kd.R_lower ho7 (below_size (hbW HB))); replace BK1 := bkB BK1 hb; replace BK2 := bkB BK2 hb; replace HB := hbS HB hb; clear hb ho7; have hnb8 := NB1_2.out; have hnc8 := NB2_1.out; obtain ⟨hcz9_0, hcz9_1, hcz9_2, hcz9_3, hcz9_4, hcz9_5, hcz9_6, hcz9_7, hfz9_0, hfz9_1, hfz9_2, hfz9_3, hfz9_4, hfz9_5, hfz9_6, hfz9_7⟩ := bc8 BK1) | ((with_reducible refine gate_builtin (b := .append) (xs := #[.tmp 3, .tmp 5]) rfl ?_); at_builtin; refine Kd.R_append_rows (Kd.int .u32) (w0 := w) w.heap.size rfl (.tmp 3) (.tmp 5) 23 22 (.int .u32 0) 4 rfl Try.underlying23 info22 rfl (by decide) (by omega) v4 y3 l0_2 _ _ _ (fun _ => True) (fun _ => False) rfl rfl ?aO ?aR (fun _ _ h => h) (fun _ h => h.elim) ?aF ?aB ?aS ?aL ?_; (case aR => repeat (first | exact (Kd.C_below HR0_2.out HB.out) | (with_reducible refine Kd.C_alloc ?_ _) | (with_reducible refine Kd.C_drewN ?_ _) | (with_reducible refine Kd.C_drew ?_))); (case aB => exact (hbW HB)); (case aF => exact (fun _ _ => trivial)); (case aO => exact (rW HO5)); (case aS => exact (below_size (hbW HB))); (case aL => have := LMc2.out; omega); intro v7 w10 ho hb hg hat; rw [← Ny6.out] at ho; have n0_ := Aside0.mk (blk_grown (g := gb1) (o := .cells #[.int .u32 a0_0, .int .i64 a0_1, .slice A0_2 l0_2.length c0_2, .slice A0_3 l0_3.length c0_3, .int .u32 a0_4, .int .u32 a0_5, .int .i64 a0_6, .int .u32 a0_7] 30 (0, 0)) (bkW BK1) hg (Kd.R_ne HO5.out BK1.out (by decide))); have n1_ := Aside0.mk (blk_grown (g := gb2) (o := .cells #[.int .u32 0, .int .i64 0, .slice none 0 0, .slice none 0 0, .int .u32 0, .int .u32 0, .int .i64 0, .int .u32 0] 30 (0, 0)) (bkW BK2) hg (Kd.R_ne HO5.out BK2.out (by decide))); have n2_ := Aside0.mk (hb); have n3_ := Aside0.mk (ho); clear BK1; clear BK2; clear HB; clear HO5; have BK1 := n0_; have BK2 := n1_; have HB := n2_; have HO8 := n3_; clear n0_ n1_ n2_ n3_; clear ho hb hg hat; obtain ⟨Ao11, co11, eo11⟩ := Kd.R_slice HO8.out; subst eo11; obtain ⟨hcz12_0, hcz12_1, hcz12_2, hcz12_3, hcz12_4, hcz12_5, hcz12_6, hcz12_7, hfz12_0, hfz12_1, hfz12_2, hfz12_3, hfz12_4, hfz12_5, hfz12_6, hfz12_7⟩ := bc8 BK1) | ((with_reducible refine gate_dst (N := 8) rfl ?_); refine Kd.R_lit (Kd.int .u32) _ 22 ?hg (N := 8) ?hd (xs := ([] : List Int)) (inner := []) (ok := fun _ => True) (okp := fun _ => True) ?hr ?hp (fun _ hk => hk) trivial (Below.refl _ _) (Nat.le_refl _) (by simp) ?_; (case hd => rfl); (case hg => rfl); (case hr => first | (go_simp; done) | (go_simp; rfl)); (case hp => exact (Reps.none _ _)); intro v10 w13 ho14 hb hg_ hnew_; clear hg_ hnew_; (first | rw [← Ny9.out] at ho14 | (simp only [Int.reduceToNat] at ho14; rw [← Ny9.out] at ho14)); have HO11 := Aside0.mk (Kd.R_lower (Kd.R_new' ho14 (Kd.R_lt (rW HO8))) (below_size (hbW HB))); replace HO8 := Aside0.mk (Kd.R_elder' (rW HO8) (Kd.R_base ho14) hb); replace BK1 := Aside0.mk (blk_below (g := gb1) (o := .cells #[.int .u32 a0_0, .int .i64 a0_1, .slice Ao11 y6.length co11, .slice A0_3 l0_3.length c0_3, .int .u32 a0_4, .int .u32 a0_5, .int .i64 a0_6, .int .u32 a0_7] 30 (0, 0)) (by (with_reducible repeat (first | refine blk_drewN ?_ _ | refine blk_drew ?_ | refine blk_alloc ?_ _)); refine blk_put (cs := #[.int .u32 a0_0, .int .i64 a0_1, .slice A0_2 l0_2.length c0_2, .slice A0_3 l0_3.length c0_3, .int .u32 a0_4, .int .u32 a0_5, .int .i64 a0_6, .int .u32 a0_7]) ?_ 2 _ rfl; (with_reducible repeat (first | refine blk_drewN ?_ _ | refine blk_drew ?_ | refine blk_alloc ?_ _)); exact BK1.out) hb); replace BK2 := bvB BK2 hb; replace HB := hbS HB hb; clear hb ho14; obtain ⟨hcz15_0, hcz15_1, hcz15_2, hcz15_3, hcz15_4, hcz15_5, hcz15_6, hcz15_7, hfz15_0, hfz15_1, hfz15_2, hfz15_3, hfz15_4, hfz15_5, hfz15_6, hfz15_7⟩ := bc8 BK1) | ((with_reducible refine gate_builtin (b := .append) (xs := #[.tmp 8, .tmp 10]) rfl ?_); at_builtin; refine Kd.R_append_rows (Kd.int .u32) (w0 := w) w.heap.size rfl (.tmp 8) (.tmp 10) 23 22 (.int .u32 0) 4 rfl Try.underlying23 info22 rfl (by decide) (by omega) v10 y9 l0_3 _ _ _ (fun k_ => some k_ ≠ (.slice Ao11 y6.length co11 : Value).ownBlock) (fun _ => False) rfl rfl ?aO ?aR (fun _ _ h => h) (fun _ h => h.elim) ?aF ?aB ?aS ?aL ?_; (case aR => repeat (first | exact (Kd.C_below HR0_3.out HB.out) | (with_reducible refine Kd.C_alloc ?_ _) | (with_reducible refine Kd.C_drewN ?_ _) | (with_reducible refine Kd.C_drew ?_))); (case aB => exact (hbW HB)); (case aF => exact (fun k_ hk => Kd.fresh' (Kd.R_lt (rW HO8)) k_ hk)); (case aO => exact (by (with_reducible repeat (first | apply Kd.R_alloc | apply Kd.R_drewN | apply Kd.R_drew)); exact Kd.R_mono HO11.out (fun _ hk => hk.2))); (case aS => exact (below_size (hbW HB))); (case aL => have := LMc3.out; omega); intro v13 w16 ho hb hg hat; rw [← Ny12.out] at ho; have n0_ := Aside0.mk (blk_grown (g := gb1) (o := .cells #[.int .u32 a0_0, .int .i64 a0_1, .slice Ao11 y6.length co11, .slice A0_3 l0_3.length c0_3, .int .u32 a0_4, .int .u32 a0_5, .int .i64 a0_6, .int .u32 a0_7] 30 (0, 0)) (bkW BK1) hg (Kd.R_ne HO11.out BK1.out (by decide))); have n1_ := Aside0.mk (blk_grown (g := gb2) (o := .cells #[.int .u32 0, .int .i64 0, .slice none 0 0, .slice none 0 0, .int .u32 0, .int .u32 0, .int .i64 0, .int .u32 0] 30 (0, 0)) (bkW BK2) hg (Kd.R_ne HO11.out BK2.out (by decide))); have n2_ := Aside0.mk (Kd.R_after (ok := (fun _ => True)) (rW HO8) hg hat); have n3_ := Aside0.mk (hb); have n4_ := Aside0.mk (ho); clear BK1; clear BK2; clear HO8; clear HB; clear HO11; have BK1 := n0_; have BK2 := n1_; have HO8 := n2_; have HB := n3_; have HO14 := n4_; clear n0_ n1_ n2_ n3_ n4_; clear ho hb hg hat; obtain ⟨Ao17, co17, eo17⟩ := Kd.R_slice HO14.out; subst eo17; obtain ⟨hcz18_0, hcz18_1, hcz18_2, hcz18_3, hcz18_4, hcz18_5, hcz18_6, hcz18_7, hfz18_0, hfz18_1, hfz18_2, hfz18_3, hfz18_4, hfz18_5, hfz18_6, hfz18_7⟩ := bc8 BK1; obtain ⟨hcz19_0, hcz19_1, hcz19_2, hcz19_3, hcz19_4, hcz19_5, hcz19_6, hcz19_7, hfz19_0, hfz19_1, hfz19_2, hfz19_3, hfz19_4, hfz19_5, hfz19_6, hfz19_7⟩ := bc8 BK2))
   refine bodyPost_ret (results_cell_row rfl _ _ gb2 30 #[.int .u32 a0_0, .int .i64 a0_1, .slice Ao11 y6.length co11, .slice Ao17 y12.length co17, .int .u32 a0_4, .int .u32 a0_5, .int .i64 a0_6, .int .u32 a0_7] (0, 0) _ rfl (bp8 BK2) Try.underlying30 rfl (by kernel_rfl)) rfl ?_
   exact ⟨_, _, by first | rfl | (simp [errW_none, errW_some] <;> rfl) | (simp [*, errW_none, errW_some] <;> rfl), moR (rW HO8), moR (rW HO14), hbW HB⟩
  ·
   rw [if_neg c3] at H
   exact absurd H (by simp)
 ·
  rw [if_neg c2] at H
  exact absurd H (by simp)

end Go.Proofs.Ytgelpccjdndfoaa.P
namespace Go.Proofs.Ytgelpccjdndfoaa.P
open Go.RowKit Go.Proofs.YtgelpccjdndfoaaW.PrintWords Go.Proofs.YtgelpccjdndfoaaW.PrintLast Go.Proofs.YtgelpccjdndfoaaW.PrintMore
/-! slices.Concat at uint32. -/
theorem grow_calls (n : Nat) (hn : n < 35184372088832) (w : World) :
    Calls Try.prog 61 #[.slice none 0 0, .int .i64 (n : Int)] w fun e w' => ∃ v0_ : Value, e = .returned v0_ ∧ Kd.R (Kd.int .u32) 22 w' w.heap.size (fun _ => True) v0_ [] ∧ Below w.heap.size w w' := by
  by_cases h0 : n = 0
  · subst h0
    go_enter Try.func61, Try.ntmps61
    go_wp2
    go_ret
    exact ⟨_, rfl, Kd.R_nil _ _ _ _ _, Below.refl _ _⟩
  · have hp : 0 < n := by omega
    have HB := Aside0.mk (Below.refl w.heap.size w)
    go_enter Try.func61, Try.ntmps61
    go_wp2_with (first | ((with_reducible refine gate_builtin (b := .append) (xs := #[.tmp 20, .tmp 21]) rfl ?_); at_builtin; refine Kd.R_append_zeros (Kd.int .u32) (w0 := w) w.heap.size rfl (.tmp 20) (.tmp 21) 23 3 22 (.int .u32 0) 4 rfl Try.underlying23 Try.underlying3 info22 rfl (by decide) (by omega) (.slice none 0 0) [] 0 (n : Int) (fun _ => True) rfl rfl rfl (fun _ _ => trivial) (Kd.R_nil _ _ _ _ _) (by omega) HB.out (Nat.le_refl _) (by simp only [List.length_nil, Int.toNat_natCast]; omega) ?_; intro v1 w1 hr hb hg hat; clear hg hat; obtain ⟨A1, c1, e1⟩ := Kd.R_slice hr; subst e1; rw [List.nil_append, Int.toNat_natCast, List.length_replicate] at hr; (try rw [List.nil_append, Int.toNat_natCast, List.length_replicate]); have HR := Aside0.mk hr; have HB1 := Aside0.mk hb; clear hr hb; obtain ⟨i0, hi0, _, hsz, _⟩ := info_parts info22; have hcut := cut_to (P := Try.prog) 23 22 .i64 Try.underlying23 hi0 A1 n c1 0 (by omega) (by omega) (Kd.R_reads' HR.out).2.1))
    go_ret
    exact ⟨_, rfl, by have := Kd.R_take (m := 0) HR.out (Nat.zero_le _); rwa [List.take_zero] at this, HB1.out⟩
def sumLen (l : List (List Int)) : Nat := (l.map List.length).sum
theorem sumLen_append (a b : List (List Int)) : sumLen (a ++ b) = sumLen a + sumLen b := by simp [sumLen]
theorem sumLen_flat (l : List (List Int)) : l.flatten.length = sumLen l := by simp [sumLen, List.length_flatten]
def slices_Concat_uint32_uint32.f (l0 : List (List Int)) : Option (List Int) := if l0.length ≤ 35184372088832 ∧ sumLen l0 < 35184372088832 then some l0.flatten else none
theorem rdLL (l : List (List Int)) (i : Nat) (h : i < l.length) : rd_L16 l (i : Int) = l[i] := by
  unfold rd_L16
  rw [Int.toNat_natCast, List.getD_eq_getElem?_getD, List.getElem?_eq_getElem h]
  rfl
set_option maxHeartbeats 2000000 in
theorem slices_Concat_uint32_uint32.calls (A0 : Option Addr) (c0 : Nat) (l0 : List (List Int)) (r : List Int) (w : World) (hr0 : Kd.C (Kd.slice 22 (Kd.int .u32)) w A0 l0.length l0) (hc0 : l0.length ≤ c0) (h : slices_Concat_uint32_uint32.f l0 = some r) :
    Calls Try.prog 41 #[.slice A0 l0.length c0] w fun e w' => ∃ v0_ : Value, e = .returned v0_ ∧ Kd.R (Kd.int .u32) 22 w' w.heap.size (fun _ => True) v0_ r ∧ Below w.heap.size w w' := by
  unfold slices_Concat_uint32_uint32.f at h
  by_cases hg : l0.length ≤ 35184372088832 ∧ sumLen l0 < 35184372088832
  · rw [if_pos hg] at h
    have hr := Option.some.inj h
    subst hr
    obtain ⟨hl, hs⟩ := hg
    have HS := Aside0.mk hs
    clear hs h
    have HR := Aside0.mk hr0
    clear hr0
    have HB := Aside0.mk (Below.refl w.heap.size w)
    have HT : Aside0 (∀ k, k ≤ l0.length → sumLen (l0.take k) ≤ sumLen l0) := ⟨fun k hk => by
      have e := sumLen_append (l0.take k) (l0.drop k)
      rw [List.take_append_drop] at e
      omega⟩
    have HT1 : Aside0 (∀ k (hk : k < l0.length), sumLen (l0.take (k + 1)) = sumLen (l0.take k) + l0[k].length) := ⟨fun k hk => by
      rw [← List.take_append_getElem hk, sumLen_append]
      simp [sumLen]⟩
    go_enter Try.func41, Try.ntmps41
    go_wp2
    go_loopg [3, 11] l0.length (fun g v3 v11 w' => ∃ k : Nat, k ≤ l0.length ∧ l0.length - k ≤ g ∧ v3 = .int .i64 (sumLen (l0.take k) : Nat) ∧ v11 = .int .i64 (k : Int) ∧ Aside0 (Below w.heap.size w w'))
    case atStart => exact ⟨0, Nat.zero_le _, by omega, rfl, rfl, HB⟩
    case round =>
      clear HB
      obtain ⟨k, hk, hg, rfl, rfl, HB⟩ := hrel
      have b1 := HT.out k hk
      have b2 := HS.out
      by_cases hlt : k < l0.length
      · obtain ⟨ad, A2, c2, e0, h0, g0, g1⟩ := at_L16 (Kd.C_below HR.out HB.out) (k : Int) (by omega) (by omega)
        have h1 := HT1.out k hlt
        have b3 := HT.out (k + 1) (by omega)
        simp only [Int.toNat_natCast] at h0
        rw [rdLL l0 k hlt] at h0 g0 g1
        generalize hx : l0[k] = x at h0 g0 g1 h1
        generalize hy : sumLen (l0.take k) = s at b1 h1
        have HX := Aside0.mk hx
        have HY := Aside0.mk hy
        have H1 := Aside0.mk h1
        have bs : s + x.length ≤ sumLen l0 := by omega
        have bs2 : (s : Int) + (x.length : Int) ≤ 35184372088832 := by omega
        clear hx hy h1 b1 b2 b3 g0 g1
        cases e0
        go_wp2
        go_roundg (l0.length - (k + 1))
        case measure => omega
        case rel => exact ⟨k + 1, by omega, by omega, by rw [H1.out]; go_num, by go_num, HB⟩
      · have he : k = l0.length := by omega
        have b4 : sumLen l0 < 35184372088832 := b2
        generalize hy : sumLen (l0.take k) = s at b1
        have HG := Aside0.mk (fun w' => grow_calls s (by omega) w')
        clear hy b1 b2 b4
        go_wp2_with (first | (go_at_call 61; refine (HG.out _).mono ?_; rintro e w6 ⟨v6, rfl, ho, hb⟩; have HO := Aside0.mk (Kd.R_lower ho HB.out.size); have HB1 := Aside0.mk (HB.out.trans (hb.mono HB.out.size)); clear ho hb))
        go_loopg [6, 27] l0.length (fun g v6 v27 w' => ∃ j : Nat, j ≤ l0.length ∧ l0.length - j ≤ g ∧ v27 = .int .i64 (j : Int) ∧ Aside0 (Kd.R (Kd.int .u32) 22 w' w.heap.size (fun _ => True) v6 (l0.take j).flatten) ∧ Aside0 (Below w.heap.size w w'))
        case atStart => exact ⟨0, Nat.zero_le _, by omega, rfl, HO, HB1⟩
        case round =>
          clear HO HB1 HB
          obtain ⟨j, hj, hgj, rfl, HO, HB⟩ := hrel
          by_cases hlt2 : j < l0.length
          · obtain ⟨ad, A2, c2, e0, h0, g0, g1⟩ := at_L16 (Kd.C_below HR.out HB.out) (j : Int) (by omega) (by omega)
            have h1 := HT1.out j hlt2
            have b3 := HT.out (j + 1) (by omega)
            have b2 := HS.out
            have hfl := sumLen_flat (l0.take j)
            have hft : (l0.take (j + 1)).flatten = (l0.take j).flatten ++ l0[j] := by rw [← List.take_append_getElem hlt2, List.flatten_append]; exact congrArg _ (List.append_nil _)
            have HF := Aside0.mk hft
            clear hft
            simp only [Int.toNat_natCast] at h0
            rw [rdLL l0 j hlt2] at h0 g0 g1
            generalize hx : l0[j] = x at h0 g0 g1 h1 HF
            generalize hf : (l0.take j).flatten = fl at HO hfl HF
            have bL : fl.length + x.length < 35184372088832 := by omega
            have G1 := Aside0.mk g1
            have BL := Aside0.mk bL
            clear hx hf hfl h1 b3 b2 g1 g0 bL
            cases e0
            go_wp2_with (first | ((with_reducible refine gate_builtin (b := .append) (xs := #[.tmp 31, .tmp 32]) rfl ?_); at_builtin; refine Kd.R_append_rows (Kd.int .u32) (w0 := w) w.heap.size rfl (.tmp 31) (.tmp 32) 23 22 (.int .u32 0) 4 rfl Try.underlying23 info22 rfl (by decide) (by omega) u6 fl x _ _ _ (fun _ => True) (fun _ => False) rfl rfl ?aO ?aR (fun _ _ h => h) (fun _ h => h.elim) ?aF ?aB ?aS ?aL ?_; (case aR => repeat (first | exact G1.out | (with_reducible refine Kd.C_alloc ?_ _) | (with_reducible refine Kd.C_drewN ?_ _) | (with_reducible refine Kd.C_drew ?_))); (case aB => exact (by repeat (first | (with_reducible first | exact HB.out | apply below_alloc | apply pw_below_drewN | apply below_drew1) | exact HB.out))); (case aF => exact (fun _ _ => trivial)); (case aO => exact (by (with_reducible repeat (first | apply Kd.R_alloc | apply Kd.R_drewN | apply Kd.R_drew)); exact HO.out)); (case aS => exact (below_size (by repeat (first | (with_reducible first | exact HB.out | apply below_alloc | apply pw_below_drewN | apply below_drew1) | exact HB.out)))); (case aL => have := BL.out; omega); intro v7 w12 ho hb hg hat; rw [← HF.out] at ho; have n0_ := Aside0.mk (hb); have n1_ := Aside0.mk (ho); clear HB; clear HO; have HB := n0_; have HO8 := n1_; clear n0_ n1_; clear ho hb hg hat))
            go_roundg (l0.length - (j + 1))
            case measure => omega
            case rel => exact ⟨j + 1, by omega, by omega, by go_num, HO8, HB⟩
          · go_wp2
            go_ret
            exact ⟨_, rfl, by have := HO.out; rw [List.take_of_length_le (by omega)] at this; exact this, HB.out⟩
  · rw [if_neg hg] at h
    exact absurd h (by simp)
end Go.Proofs.Ytgelpccjdndfoaa.P
namespace Go.Proofs.Ytgelpccjdndfoaa.P
open Go.RowKit Go.Proofs.YtgelpccjdndfoaaW.PrintWords Go.Proofs.YtgelpccjdndfoaaW.PrintLast Go.Proofs.YtgelpccjdndfoaaW.PrintMore
attribute [local go_sem] max2_int min2_int max_two min_two max_three min_three max_four min_four
/-! ### act_join: function 27 -/
def q6z.f (l0 : List (List Int)) : Option (List Int) := (some (([] : List Int) : List Int)).bind fun y1 => ((slices_Concat_uint32_uint32.f l0).bind fun t4 => (if y1.length + t4.length < 35184372088832 then (some (y1 ++ t4)) else (none)))
set_option maxHeartbeats 8000000 in
set_option maxRecDepth 100000 in
theorem q6z.calls (A0 : Option Addr) (c0 : Nat) (l0 : List (List Int)) (r : List Int) (w : World) (hr0 : Kd.C (Kd.slice 22 (Kd.int .u32)) w A0 l0.length l0) (hc0 : l0.length ≤ c0) (h : q6z.f l0 = some r) :
  Calls Try.prog 27 #[.slice A0 l0.length c0] w fun e w' => ∃ v0_ : Value, e = .returned (v0_) ∧ Kd.R (Kd.int .u32) 22 w' w.heap.size (fun _ => True) v0_ r ∧ Below w.heap.size w w' := by
 have HR0 := Aside0.mk hr0
 have HC0 := Aside0.mk hc0
 clear hr0 hc0
 have HB := Aside0.mk (Below.refl w.heap.size w)
 have H : ((some (([] : List Int) : List Int)).bind fun y1 => ((slices_Concat_uint32_uint32.f l0).bind fun t4 => (if y1.length + t4.length < 35184372088832 then (some (y1 ++ t4)) else (none)))) = some r := h
 clear h
 obtain ⟨y1, hy1⟩ : ∃ y_ : List Int, y_ = (([] : List Int)) := ⟨_, rfl⟩
 replace H : ((slices_Concat_uint32_uint32.f l0).bind fun t4 => (if y1.length + t4.length < 35184372088832 then (some (y1 ++ t4)) else (none))) = some r := by first | (rw [hy1]; with_reducible exact H) | (have H2_ := (Option.bind_some _ _).symm.trans H; rw [hy1]; with_reducible exact H2_) | (have H2_ := (Option.bind_some _ _).symm.trans H; with_reducible exact H2_) | with_reducible exact H | (rw [hy1]; exact H) | exact H
 have Ny1 := Aside0.mk hy1
 clear hy1
 replace H := Option.bind_eq_some_iff.mp H
 obtain ⟨t4, A20, H⟩ := H
 replace H : (if y1.length + t4.length < 35184372088832 then (some (y1 ++ t4)) else (none)) = some r := H
 have A2 := Aside0.mk A20
 clear A20
 by_cases c3 : y1.length + t4.length < 35184372088832
 ·
  rw [if_pos c3] at H
  have LMc3 := Aside0.mk c3
  clear c3
  obtain ⟨y7, hy7⟩ : ∃ y_ : List Int, y_ = (y1 ++ t4) := ⟨_, rfl⟩
  replace H : (some y7) = some r := by first | (rw [hy7]; with_reducible exact H) | (have H2_ := (Option.bind_some _ _).symm.trans H; rw [hy7]; with_reducible exact H2_) | (have H2_ := (Option.bind_some _ _).symm.trans H; with_reducible exact H2_) | with_reducible exact H | (rw [hy7]; exact H) | exact H
  have Ny7 := Aside0.mk hy7
  clear hy7
  obtain rfl := Option.some.inj H
  go_enter Try.func27, Try.ntmps27
  go_wp2_with (first | ((with_reducible refine gate_dst (N := 3) rfl ?_); refine Kd.R_lit (Kd.int .u32) _ 22 ?hg (N := 3) ?hd (xs := ([] : List Int)) (inner := []) (ok := fun _ => True) (okp := fun _ => True) ?hr ?hp (fun _ hk => hk) trivial (Below.refl _ _) (Nat.le_refl _) (by simp) ?_; (case hd => rfl); (case hg => rfl); (case hr => first | (go_simp; done) | (go_simp; rfl)); (case hp => exact (Reps.none _ _)); intro v2 w4 ho5 hb hg_ hnew_; clear hg_ hnew_; (first | rw [← Ny1.out] at ho5 | (simp only [Int.reduceToNat] at ho5; rw [← Ny1.out] at ho5)); have HO3 := Aside0.mk (Kd.R_lower ho5 (below_size (hbW HB))); replace HB := hbS HB hb; clear hb ho5) | ((with_reducible refine gate_callee (f := 41) rfl ?_); refine goesL_ (some 5) rfl rfl Try.func41 (by kernel_rfl) rfl #[.slice A0 l0.length c0] rfl (by (try simp only [List.map_toArray, List.map_cons, List.map_nil]); first | done | rfl | (simp only [List.length_drop, List.length_take]; rfl)) ?_; (with_reducible refine (slices_Concat_uint32_uint32.calls _ _ l0 t4 _ ?side1 ?side2 A2.out).mono ?_); (case side1 => repeat (first | exact (Kd.C_below HR0.out HB.out) | (with_reducible refine Kd.C_alloc ?_ _) | (with_reducible refine Kd.C_drewN ?_ _) | (with_reducible refine Kd.C_drew ?_))); (case side2 => exact HC0.out); rintro e w6 ⟨v5, rfl, ho0, hb⟩; refine ⟨_, rfl, ?_⟩; have HO6 := Aside0.mk (Kd.R_lower (Kd.R_new' ho0 (Kd.R_lt (rW HO3))) (below_size (hbW HB))); replace HO3 := Aside0.mk (Kd.R_elder' (rW HO3) (Kd.R_base ho0) hb); replace HB := hbS HB hb; (try clear hb); (try clear hk); (try clear ho0); obtain ⟨Ao8, co8, eo8⟩ := Kd.R_slice HO6.out; subst eo8) | ((with_reducible refine gate_builtin (b := .append) (xs := #[.tmp 3, .tmp 5]) rfl ?_); at_builtin; refine Kd.R_append_rows (Kd.int .u32) (w0 := w) w.heap.size rfl (.tmp 3) (.tmp 5) 23 22 (.int .u32 0) 4 rfl Try.underlying23 info22 rfl (by decide) (by omega) v2 y1 t4 _ _ _ (fun k_ => some k_ ≠ (.slice Ao8 t4.length co8 : Value).ownBlock) (fun _ => False) rfl rfl ?aO ?aR (fun _ _ h => h) (fun _ h => h.elim) ?aF ?aB ?aS ?aL ?_; (case aR => repeat (first | exact (Kd.R_reads' HO6.out).2.2 | (with_reducible refine Kd.C_alloc ?_ _) | (with_reducible refine Kd.C_drewN ?_ _) | (with_reducible refine Kd.C_drew ?_))); (case aB => exact (hbW HB)); (case aF => exact (fun k_ hk => Kd.fresh' (Kd.R_lt (rW HO6)) k_ hk)); (case aO => exact (by (with_reducible repeat (first | apply Kd.R_alloc | apply Kd.R_drewN | apply Kd.R_drew)); exact Kd.R_mono HO3.out (fun _ hk => hk.2))); (case aS => exact (below_size (hbW HB))); (case aL => have := LMc3.out; omega); intro v8 w7 ho hb hg hat; rw [← Ny7.out] at ho; have n0_ := Aside0.mk (Kd.R_after (ok := (fun _ => True)) (rW HO6) hg hat); have n1_ := Aside0.mk (hb); have n2_ := Aside0.mk (ho); clear HO6; clear HB; clear HO3; have HO6 := n0_; have HB := n1_; have HO9 := n2_; clear n0_ n1_ n2_; clear ho hb hg hat))
  go_ret
  exact ⟨_, by first | rfl | (simp [errW_none, errW_some] <;> rfl) | (simp [*, errW_none, errW_some] <;> rfl), by (with_reducible repeat (first | apply Kd.R_alloc | apply Kd.R_drewN | apply Kd.R_drew)); exact Kd.R_mono HO9.out (fun _ hk => trivial), hbW HB⟩
 ·
  rw [if_neg c3] at H
  exact absurd H (by simp)

end Go.Proofs.Ytgelpccjdndfoaa.P
namespace Go.Proofs.Ytgelpccjdndfoaa.P
open Go.RowKit Go.Proofs.YtgelpccjdndfoaaW.PrintWords Go.Proofs.YtgelpccjdndfoaaW.PrintLast Go.Proofs.YtgelpccjdndfoaaW.PrintMore Go.Sort
variable {α : Type} [Inhabited α] {d : Kd α} {enc : α → List Value} {e base g cap n : Nat} {ok ok' : Nat → Prop} {w w' : World} {v : Value} {xs ys : List α} {cur : Array Value}

theorem getElem!_toArray_of (xs : List α) (i : Nat) (h : i < xs.length) : xs.toArray[i]! = xs[i] := by
  rw [getElem!_pos xs.toArray i (by simpa using h)]
  simp
theorem getElem!_list (l : List Value) (i : Nat) (h : i < l.length) : l[i]! = l[i] := getElem!_pos l i h

/-- A row of the call's own whose elements lead to nothing: as the sort's contracts want it. -/
theorem bridge_down (hflat : ∀ {w : World} {base : Nat} {ok : Nat → Prop} {x : α} {cs : List Value}, d.M w base ok x cs → cs = enc x) (hk : ∀ x, (enc x).length = d.sz) (hpos : 0 < d.sz) (h : d.R e w base ok v xs) :
    (v = .slice none 0 0 ∧ xs = []) ∨ ∃ g cap cur, v = .slice (some ⟨g, 0, none⟩) xs.length cap ∧ base ≤ g ∧ w.heap[g]? = some (.cells cur e (0, 0)) ∧ xs.length ≤ cap ∧ cap ≤ maxLen ∧ cur.size = cap * d.sz ∧ ok g ∧ HoldsK enc d.sz w g 0 xs.toArray := by
  obtain ⟨h0, inner, ⟨hlen, hv⟩, hreps⟩ := h
  rcases hv with ⟨hv, hn⟩ | ⟨g, cap, cur, rfl, hg, hb, hnc, hcm, hcs, htake⟩
  · exact .inl ⟨hv, List.length_eq_zero_iff.1 hn⟩
  · refine .inr ⟨g, cap, cur, rfl, hg, hb, hnc, hcm, hcs, h0 g rfl, ?_⟩
    intro j hj
    rw [size_flatK, List.size_toArray] at hj
    rw [Nat.zero_add]
    refine ⟨?_, blk_frozen hb j⟩
    rw [blk_cell hb j, id, get_flatK enc d.sz xs.toArray j (by simpa using hj)]
    have hq : j / d.sz < xs.length := Nat.div_lt_of_lt_mul (by rw [Nat.mul_comm]; exact hj)
    rw [getElem!_toArray_of xs _ hq]
    have hr := hflat (hreps.2 (j / d.sz) xs[j / d.sz] (List.getElem?_eq_getElem hq))
    have hm : j % d.sz < d.sz := Nat.mod_lt _ hpos
    rw [getElem!_list _ _ (by rw [hk]; exact hm)]
    have e1 : (enc xs[j / d.sz])[j % d.sz]? = cur[j]? := by
      rw [← hr, List.getElem?_take_of_lt hm, List.getElem?_drop]
      have hjj : j / d.sz * d.sz + j % d.sz = j := Nat.div_add_mod' j d.sz
      rw [hjj, ← htake, List.getElem?_take_of_lt hj]
      simp
    rw [← e1]
    exact List.getElem?_eq_getElem (by rw [hk]; exact hm)

/-- What stands in a world of the sort's. -/
theorem sortWorld_heap (w : World) (g m : Nat) (D : Array α) (os : Array Obj) (hb : w.heap[g]? = some (.cells cur e (0, 0))) :
    (grow (putRowK enc d.sz (Sort.ahead w m) g 0 D) os).heap[g]? = some (.cells (putCells id 0 (flatK enc d.sz D) cur) e (0, 0)) ∧
    (∀ k, k < w.heap.size → k ≠ g → (grow (putRowK enc d.sz (Sort.ahead w m) g 0 D) os).heap[k]? = w.heap[k]?) ∧ w.heap.size ≤ (grow (putRowK enc d.sz (Sort.ahead w m) g 0 D) os).heap.size := by
  have hg := blk_lt hb
  have hsz : (putRowK enc d.sz (Sort.ahead w m) g 0 D).heap.size = w.heap.size := by
    unfold putRowK
    rw [size_putRow]
    rfl
  have hlt : ∀ k : Nat, k < w.heap.size → (grow (putRowK enc d.sz (Sort.ahead w m) g 0 D) os).heap[k]? = (putRowK enc d.sz (Sort.ahead w m) g 0 D).heap[k]? := fun k hk => by
    unfold grow
    exact Array.getElem?_append_left (by rw [hsz]; exact hk)
  have hmod : ∀ k : Nat, (putRowK enc d.sz (Sort.ahead w m) g 0 D).heap[k]? = (w.heap.modify g (onCells (putCells id 0 (flatK enc d.sz D))))[k]? := fun k => rfl
  refine ⟨?_, ?_, ?_⟩
  · rw [hlt g hg, hmod, Array.getElem?_modify, if_pos rfl, hb]
    rfl
  · intro k hk hne
    rw [hlt k hk, hmod, Array.getElem?_modify, if_neg (fun h => hne h.symm)]
  · unfold grow
    rw [Array.size_append, hsz]
    omega

theorem take_putCellsK (hk : ∀ x, (enc x).length = d.sz) (hpos : 0 < d.sz) (hc : ys.length * d.sz ≤ cur.size) :
    ((putCells id 0 (flatK enc d.sz ys.toArray) cur).toList.take (ys.length * d.sz)).length = ys.length * d.sz ∧
    ∀ j p, ys[j]? = some p → ((((putCells id 0 (flatK enc d.sz ys.toArray) cur).toList.take (ys.length * d.sz)).drop (j * d.sz)).take d.sz) = enc p := by
  have hs : (putCells id 0 (flatK enc d.sz ys.toArray) cur).size = cur.size := by simp [putCells]
  have hs2 : (putCells id 0 (flatK enc d.sz ys.toArray) cur).toList.length = cur.size := by rw [Array.length_toList]; exact hs
  refine ⟨by rw [List.length_take, hs2]; omega, ?_⟩
  intro j p hp
  obtain ⟨hj, rfl⟩ := List.getElem?_eq_some_iff.1 hp
  have hjk : j * d.sz + d.sz ≤ ys.length * d.sz := by rw [← Nat.succ_mul]; exact Nat.mul_le_mul_right _ hj
  apply List.ext_getElem?
  intro i
  by_cases hi : i < d.sz
  · rw [List.getElem?_take_of_lt hi, List.getElem?_drop, List.getElem?_take_of_lt (by omega)]
    have ht : j * d.sz + i < ys.length * d.sz := by omega
    rw [Array.getElem?_toList]
    unfold putCells
    rw [Array.getElem?_mapIdx, Array.getElem?_eq_getElem (show j * d.sz + i < cur.size by omega), Option.map_some, if_pos ⟨Nat.zero_le _, by rw [size_flatK]; simpa using ht⟩, Nat.sub_zero, id,
      get_flatK enc d.sz ys.toArray _ (by simpa using ht)]
    have e1 : (j * d.sz + i) / d.sz = j := by rw [Nat.mul_comm, Nat.mul_add_div hpos, Nat.div_eq_of_lt hi, Nat.add_zero]
    have e2 : (j * d.sz + i) % d.sz = i := by rw [Nat.mul_comm, Nat.mul_add_mod, Nat.mod_eq_of_lt hi]
    rw [e1, e2, getElem!_toArray_of ys j hj, getElem!_list _ _ (by rw [hk]; exact hi), List.getElem?_eq_getElem (by rw [hk]; exact hi)]
  · rw [List.getElem?_eq_none (by rw [List.length_take]; omega), List.getElem?_eq_none (by rw [hk]; omega)]

/-- .. and back: what a call says that wrote the row alone, and laid blocks. -/
theorem bridge_up (hmk : ∀ (w : World) (base : Nat) (ok : Nat → Prop) (x : α), d.M w base ok x (enc x)) (hk : ∀ x, (enc x).length = d.sz) (hpos : 0 < d.sz) {W0 : World} (hB : Below W0.heap.size W0 w) (hbase : W0.heap.size ≤ g)
    (hb : w.heap[g]? = some (.cells cur e (0, 0))) (hlen : ys.length = n) (hnc : n ≤ cap) (hcm : cap ≤ maxLen) (hcs : cur.size = cap * d.sz) (hok : ok g) (m : Nat) (os : Array Obj) :
    d.R e (grow (putRowK enc d.sz (Sort.ahead w m) g 0 ys.toArray) os) W0.heap.size (fun k_ => ok k_ ∨ w.heap.size ≤ k_) (.slice (some ⟨g, 0, none⟩) n cap) ys ∧
    Below W0.heap.size W0 (grow (putRowK enc d.sz (Sort.ahead w m) g 0 ys.toArray) os) ∧ Kept w (grow (putRowK enc d.sz (Sort.ahead w m) g 0 ys.toArray) os) ok := by
  obtain ⟨h1, h2, h3⟩ := sortWorld_heap (d := d) (enc := enc) w g m ys.toArray os hb
  subst hlen
  have hmul : ys.length * d.sz ≤ cap * d.sz := Nat.mul_le_mul_right _ hnc
  obtain ⟨t1, t2⟩ := take_putCellsK (d := d) (enc := enc) (ys := ys) (cur := cur) hk hpos (by omega)
  refine ⟨⟨?_, _, ⟨t1, .inr ⟨g, cap, _, rfl, hbase, h1, hnc, hcm, by simp [putCells, hcs], rfl⟩⟩, t1, ?_⟩, ⟨hB.os, hB.tape, hB.output, Nat.le_trans hB.size h3, ?_⟩, h3, ?_⟩
  · intro k hk'
    have : g = k := by simpa [Value.ownBlock] using hk'
    exact .inl (this ▸ hok)
  · intro j p hp
    rw [t2 j p hp]
    exact hmk _ _ _ _
  · intro k hk'
    rw [h2 k (Nat.lt_of_lt_of_le hk' hB.size) (by omega)]
    exact hB.block k hk'
  · intro k hk' hn
    exact h2 k hk' (fun he => hn (he ▸ hok))
end Go.Proofs.Ytgelpccjdndfoaa.P
namespace Go.Proofs.Ytgelpccjdndfoaa.P
open Go.RowKit Go.Proofs.YtgelpccjdndfoaaW.PrintWords Go.Proofs.YtgelpccjdndfoaaW.PrintLast Go.Proofs.YtgelpccjdndfoaaW.PrintMore Go.Sort Go.Shelf Go.Lib
def lay_Compact_ren : Go.Shelf.Ren := ⟨fun | 43 => 43 | n => n, fun | 22 => 23 | 23 => 22 | 3 => 3 | 4 => 4 | 0 => 0 | n => n, fun n => n⟩
theorem lay_Compact : SlLaysE.n43 Try.prog lay_Compact_ren := {
  mixed := by kernel_rfl,
  f43 := ⟨Try.f43.name, by decide, Try.func43.trans (congrArg some (by kernel_rfl))⟩,
  t0 := Try.underlying0,
  a0 := Try.isAgg0,
  z0 := Try.sizeOf0,
  v0 := Try.zeroValue0,
  t3 := Try.underlying3,
  a3 := Try.isAgg3,
  z3 := Try.sizeOf3,
  v3 := Try.zeroValue3,
  t4 := Try.underlying4,
  a4 := Try.isAgg4,
  z4 := Try.sizeOf4,
  v4 := Try.zeroValue4,
  t22 := Try.underlying23,
  a22 := Try.isAgg23,
  z22 := Try.sizeOf23,
  v22 := Try.zeroValue23,
  a23 := Try.isAgg22,
  z23 := Try.sizeOf22 }
section
variable {α : Type} [Inhabited α]
theorem flat_one (enc : α → Value) (d : Array α) (i : Nat) (h : i < d.size) : (flatK (fun x => [enc x]) 1 d)[i]! = enc d[i]! := by
  rw [get_flatK _ _ _ _ (by omega), Nat.div_one, Nat.mod_one]
  rfl
theorem holds_one (enc : α → Value) (w : World) (blk off : Nat) (d : Array α) (h : HoldsK (fun x => [enc x]) 1 w blk off d) : Holds enc w blk off d := fun j hj => by
  have := h j (by rw [size_flatK]; omega)
  rw [flat_one enc d j hj] at this
  exact this
theorem putRow_one (enc : α → Value) (w : World) (blk off : Nat) (d : Array α) : putRow enc w blk off d = putRowK (fun x => [enc x]) 1 w blk off d := by
  unfold putRowK putRow
  refine mapBlock_congr w blk _ _ (fun c e fr _ => ?_)
  unfold putCells
  apply Array.ext_getElem?
  intro i
  rw [Array.getElem?_mapIdx, Array.getElem?_mapIdx, size_flatK, Nat.mul_one]
  cases c[i]? with
  | none => rfl
  | some x =>
    simp only [Option.map_some]
    by_cases hi : off ≤ i ∧ i < off + d.size
    · rw [if_pos hi, if_pos hi, flat_one enc d (i - off) (by omega)]
      rfl
    · rw [if_neg hi, if_neg hi]
end
def Compact_u32.f (l0 : List Int) : Option (List Int) := if l0.length ≤ 9223372036854775807 then some (Go.Lib.compactUpTo l0.toArray l0.length) else none
theorem compact_le (l : List Int) : (Go.Lib.compactUpTo l.toArray l.length).length ≤ l.length := by
  unfold Go.Lib.compactUpTo
  rw [List.length_map]
  exact Nat.le_trans (List.length_filter_le _ _) (by simp)
theorem Compact_u32.calls (P0_ : Nat → Prop) (u9000_ : Value) (l0 : List Int) (r : List Int) (w0 w : World) (hB : Below w0.heap.size w0 w) (ho0 : Kd.R (Kd.int .u32) 22 w w0.heap.size P0_ u9000_ l0) (h : Compact_u32.f l0 = some r) :
    Calls Try.prog 43 #[u9000_] w fun e w' => ∃ v0_ : Value, e = .returned (v0_) ∧ Kd.R (Kd.int .u32) 22 w' w0.heap.size (fun k_ => (P0_ k_ ∨ w.heap.size ≤ k_)) v0_ r ∧ Below w0.heap.size w0 w' ∧ Kept w w' (fun k_ => P0_ k_) := by
  unfold Compact_u32.f at h
  by_cases hsz : l0.length ≤ 9223372036854775807
  · rw [if_pos hsz] at h
    have hr := Option.some.inj h
    clear h
    rcases bridge_down (d := Kd.int .u32) (enc := fun x : Int => [.int .u32 x]) (fun h => h) (fun _ => rfl) (by decide) ho0 with ⟨rfl, rfl⟩ | ⟨g, cap, cur, rfl, hbase, hb, hnc, hcm, hcs, hok, hH⟩
    · have hrn : r = [] := by
        have := compact_le []
        rw [hr] at this
        exact List.length_eq_zero_iff.1 (by simpa using this)
      subst hrn
      clear hr hsz
      have HO := Go.Lib.hid ho0
      clear ho0
      go_enter Try.func43, Try.ntmps43
      go_wp2
      go_ret
      exact ⟨_, rfl, Kd.R_nil _ _ _ _ _, hB, Kept.refl _ _⟩
    · have hcon := AnyE.slices_Compact lay_Compact (Value.int .u32) (fun _ => rfl) (EqlAt.intD _ _ .u32) (NeqAt.intD _ _ .u32) 0 Try.zeroValue22 g 0 cap l0.toArray w (holds_one _ _ _ _ _ hH) (by simpa using hsz) (by simpa using hnc)
      refine (show Calls Try.prog 43 _ _ _ from hcon).mono ?_
      rintro e w' ⟨rfl, q, rfl⟩
      have hcl := compact_le l0
      have hcu : Go.Lib.compactUpTo l0.toArray l0.toArray.size = r := by rw [← hr]; simp
      rw [hcu]
      rw [hr] at hcl
      have hyl : (r ++ List.replicate (l0.toArray.size - r.length) (0 : Int)).length = l0.length := by simp; omega
      have hup := bridge_up (d := Kd.int .u32) (enc := fun x : Int => [.int .u32 x]) (ys := r ++ List.replicate (l0.toArray.size - r.length) (0 : Int)) (fun _ _ _ _ => rfl) (fun _ => rfl) (by decide) hB hbase hb hyl hnc hcm hcs hok q #[]
      rw [grow_empty, show (Kd.int .u32).sz = 1 from rfl, ← putRow_one] at hup
      refine ⟨_, rfl, ?_, hup.2⟩
      have := Kd.R_take (m := r.length) hup.1 (by simp)
      rw [List.take_left] at this
      exact this
  · rw [if_neg hsz] at h
    exact absurd h (by simp)
end Go.Proofs.Ytgelpccjdndfoaa.P
namespace Go.Proofs.Ytgelpccjdndfoaa.P
open Go.RowKit Go.Sort Go.Shelf Go.Lib
/-! Go's own sort at uint32: words of every walk. -/
theorem nan_u32 (x : Int) (w : World) : Calls Try.prog 94 #[.int .u32 x] w fun e w' => e = .returned (.bool false) ∧ w' = w := by
  go_enter Try.func94, Try.ntmps94
  go_wp2
  go_ret
  exact ⟨by simp, rfl⟩
theorem less_u32 (x y : Int) (w : World) : Calls Try.prog 80 #[.int .u32 x, .int .u32 y] w fun e w' => e = .returned (.bool (ltInt x y)) ∧ w' = w := by
  go_enter Try.func80, Try.ntmps80
  go_wp2_with (go_at_call 94; refine (nan_u32 _ _).mono ?_; rintro e w' ⟨rfl, rfl⟩)
  go_ret
  exact ⟨rfl, rfl⟩
/-- A row of a world of the sort's, its places under one name. -/
theorem row_facts {w0 W : World} {blk off : Nat} {d0 dk : Array Int} (S : SW (.int .u32) w0 blk off dk W) (R : Row1 (.int .u32) w0 blk off d0) (hs : dk.size = d0.size) :
    ∃ G : Nat → Int, Hid (∀ t, G t = dk[t]!) ∧ (∀ t, t < d0.size → W.cell? ⟨blk, off + t, none⟩ = some (.int .u32 (G t))) ∧ ∀ t, t < d0.size → W.frozen? ⟨blk, off + t, none⟩ = false :=
  ⟨fun t => dk[t]!, fun _ => rfl, fun t ht => S.c1 R hs t (by omega), fun t ht => S.f1 R hs t (by omega)⟩
theorem row_u32 {w : World} {blk off : Nat} {d : Array Int} (h : Holds (.int .u32) w blk off d) (hb : blk < w.heap.size) : Row1 (.int .u32) w blk off d := ⟨fun _ => rfl, h, hb⟩
set_option maxHeartbeats 4000000 in
set_option maxRecDepth 100000 in
theorem reverse_u32 (blk off cap a b : Nat) (d0 d : Array Int) (w0 w : World) (R : Row1 (.int .u32) w0 blk off d0) (hs : d.size = d0.size) (S : SW (.int .u32) w0 blk off d w) (hab : a < b) (hb : b ≤ d0.size) (hsz : d0.size < 4611686018427387904) :
    Calls Try.prog 78 #[.slice (some ⟨blk, off, none⟩) d0.size cap, .int .i64 a, .int .i64 b] w fun e w' => e = .returned (.tuple #[]) ∧ SW (.int .u32) w0 blk off (reverseRange d a b) w' := by
  have S0 : Hid (SW (.int .u32) w0 blk off d w) := S
  clear S
  go_enter Try.func78, Try.ntmps78
  go_wp2
  go_loopw [6, 7] (fun vi vj wr => ∃ (i j : Nat) (dk : Array Int), vi = .int .i64 i ∧ vj = .int .i64 j ∧ i ≤ j + 1 ∧ j < b ∧ dk.size = d0.size ∧ Hid (SW (.int .u32) w0 blk off dk wr) ∧ Hid (reverseLoop i j dk = reverseLoop a (b - 1) d))
    (fun vi vj _ => (intOf vj).toNat + 1 - (intOf vi).toNat)
  case atStart => exact ⟨a, b - 1, d, rfl, by congr 1; omega, by omega, by omega, hs, S0, rfl⟩
  case round =>
    clear S0 hs
    obtain ⟨i, j, dk, rfl, rfl, hij, hjb, hds, S1, H⟩ := hrel
    by_cases hlt : i < j
    · obtain ⟨G, hG, hc, hf⟩ := row_facts S1.out R hds
      obtain ⟨u, hu⟩ := S1.out.c2 R hds i j (by omega) (by omega) (.int .u32 (G j))
      go_wp2_with fail
      go_region
      all_goals go_wp2
      go_roundw
      case rel =>
        refine ⟨i + 1, j - 1, swp dk i j, by go_num, by go_num, by omega, by omega, by rw [size_swp]; exact hds, ?_, ?_⟩
        · have := S1.out.swapped R i j (by omega) (by omega)
          rw [← hG.out i, ← hG.out j] at this
          exact this
        · have := H.out
          rw [reverseLoop, if_pos hlt] at this
          exact this
      case measure => simp [intOf]; omega
    · go_wp2
      go_end0
      refine ⟨rfl, ?_⟩
      have := H.out
      rw [reverseLoop, if_neg hlt] at this
      rw [reverseRange, ← this]
      exact S1.out
theorem insInner_end (a j : Nat) (d : Array Int) (h : ¬ a < j ∨ ltInt d[j]! d[j - 1]! = false) : insInner ltInt a j d = d := by
  cases j with
  | zero => rfl
  | succ k =>
    rw [insInner, if_neg]
    rcases h with h | h
    · simp; omega
    · simp only [Nat.add_sub_cancel] at h; simp [h]
set_option maxHeartbeats 4000000 in
set_option maxRecDepth 100000 in
theorem insertion_u32 (blk off cap a b : Nat) (d0 d : Array Int) (w0 w : World) (R : Row1 (.int .u32) w0 blk off d0) (hs : d.size = d0.size) (S : SW (.int .u32) w0 blk off d w) (hb : b ≤ d0.size) (hsz : d0.size < 4611686018427387904) (ha : a < 4611686018427387904) :
    Calls Try.prog 74 #[.slice (some ⟨blk, off, none⟩) d0.size cap, .int .i64 a, .int .i64 b] w fun e w' => e = .returned (.tuple #[]) ∧ SW (.int .u32) w0 blk off (insertionSort ltInt d a b) w' := by
  have S0 : Hid (SW (.int .u32) w0 blk off d w) := S
  clear S
  go_enter Try.func74, Try.ntmps74
  go_wp2
  go_loopw [6, 7] (fun vi v7 wr => ∃ (i : Nat) (dk : Array Int), vi = .int .i64 i ∧ a + 1 ≤ i ∧ (i ≤ a + 1 ∨ i ≤ b) ∧ dk.size = d0.size ∧ Hid (SW (.int .u32) w0 blk off dk wr) ∧ Hid (insOuter ltInt a b i dk = insOuter ltInt a b (a + 1) d))
    (fun vi v7 _ => b - (intOf vi).toNat)
  case atStart => exact ⟨a + 1, d, by go_num, Nat.le_refl _, .inl (Nat.le_refl _), hs, S0, rfl⟩
  case round =>
    clear S0 hs
    obtain ⟨i, dk, rfl, hai, hia, hds, S1, H⟩ := hrel
    by_cases hib : i < b
    · go_wp2
      go_loopw [7] (fun vj wr => ∃ (j : Nat) (dj : Array Int), vj = .int .i64 j ∧ a ≤ j ∧ j ≤ i ∧ dj.size = d0.size ∧ Hid (SW (.int .u32) w0 blk off dj wr) ∧ Hid (insInner ltInt a j dj = insInner ltInt a i dk))
        (fun vj _ => (intOf vj).toNat)
      case atStart => exact ⟨i, dk, rfl, by omega, Nat.le_refl _, hds, S1, rfl⟩
      case round =>
        clear S1 hds
        obtain ⟨j, dj, rfl, haj, hji, hdj, S2, H2⟩ := hrel
        obtain ⟨G, hG, hc, hf⟩ := row_facts S2.out R hdj
        by_cases hja : a < j
        · obtain ⟨k, hk⟩ : ∃ k, j = k + 1 := ⟨j - 1, by omega⟩
          obtain ⟨u, hu⟩ := S2.out.c2 R hdj j k (by omega) (by omega) (.int .u32 (G k))
          have ez : (j : Int) - 1 = (k : Int) := by omega
          have hkl : k < d0.size := by omega
          have hjl : j < d0.size := by omega
          have HK : Hid (j = k + 1) := hk
          clear hk
          go_wp2_with fail
          go_big_quiet (first | (go_at_call 80; refine Calls.quiet_of_same (less_u32 _ _ _)))
          go_wp2
          · have ht : ltInt (G j) (G k) = true := by assumption
            go_region
            all_goals go_wp2
            go_roundw
            case rel =>
              have hk := HK.out
              refine ⟨k, swp dj j k, rfl, by omega, by omega, by rw [size_swp]; exact hdj, ?_, ?_⟩
              · have := (S2.out.drewN nq).swapped R j k (by omega) (by omega)
                rw [← hG.out j, ← hG.out k] at this
                exact this
              · rw [← H2.out]
                rw [hG.out j, hG.out k, hk] at ht
                rw [hk, insInner, if_pos (by rw [ht]; simp; omega)]
                exact rfl
            case measure => have hk := HK.out; simp [intOf]; omega
          · have ht : ltInt (G j) (G k) = false := by assumption
            have e := insInner_end a j dj (.inr (by rw [show j - 1 = k from by have := HK.out; omega, ← hG.out j, ← hG.out k]; exact ht))
            go_roundw
            case rel =>
              refine ⟨i + 1, dj, by go_num, by omega, .inr (by omega), hdj, S2.out.drewN nq, ?_⟩
              have h := H.out
              rw [insOuter, if_pos hib, ← H2.out, e] at h
              exact h
            case measure => simp [intOf]; omega
        · have e := insInner_end a j dj (.inl hja)
          go_wp2_with fail
          go_big_quiet (fail)
          go_wp2
          go_roundw
          case rel =>
            refine ⟨i + 1, dj, by go_num, by omega, .inr (by omega), hdj, S2.out.drewN nq, ?_⟩
            have h := H.out
            rw [insOuter, if_pos hib, ← H2.out, e] at h
            exact h
          case measure => simp [intOf]; omega
    · go_wp2
      go_end0
      refine ⟨rfl, ?_⟩
      have h := H.out
      rw [insOuter, if_neg hib] at h
      rw [insertionSort, ← h]
      exact S1.out
theorem sift_stop (hi F root : Nat) (d : Array Int) (h : hi ≤ 2 * root + 1) : siftDown ltInt hi F root d = d := by rw [siftDown, dif_pos h]
theorem sift_left (hi F root : Nat) (d : Array Int) (h : 2 * root + 1 < hi) (hc : ¬ 2 * root + 1 + 1 < hi ∨ ltInt d[F + (2 * root + 1)]! d[F + (2 * root + 1) + 1]! = false) :
    siftDown ltInt hi F root d = if ltInt d[F + root]! d[F + (2 * root + 1)]! = false then d else siftDown ltInt hi F (2 * root + 1) (swp d (F + root) (F + (2 * root + 1))) := by
  rw [siftDown, dif_neg (by omega), if_neg (by rcases hc with hc | hc <;> simp [hc])]
  cases ltInt d[F + root]! d[F + (2 * root + 1)]! <;> rfl
theorem sift_right (hi F root : Nat) (d : Array Int) (h : 2 * root + 1 + 1 < hi) (hc : ltInt d[F + (2 * root + 1)]! d[F + (2 * root + 1) + 1]! = true) :
    siftDown ltInt hi F root d = if ltInt d[F + root]! d[F + (2 * root + 2)]! = false then d else siftDown ltInt hi F (2 * root + 2) (swp d (F + root) (F + (2 * root + 2))) := by
  rw [siftDown, dif_neg (by omega), if_pos (by simp [hc, h]), dif_pos (by omega)]
  cases ltInt d[F + root]! d[F + (2 * root + 2)]! <;> rfl
set_option maxHeartbeats 8000000 in
set_option maxRecDepth 100000 in
theorem sift_u32 (blk off cap lo hi F : Nat) (d0 d : Array Int) (w0 w : World) (R : Row1 (.int .u32) w0 blk off d0) (hs : d.size = d0.size) (S : SW (.int .u32) w0 blk off d w) (hF : F + hi ≤ d0.size) (hlo : lo ≤ d0.size) (hsz : d0.size < 4611686018427387904) :
    Calls Try.prog 89 #[.slice (some ⟨blk, off, none⟩) d0.size cap, .int .i64 lo, .int .i64 hi, .int .i64 F] w fun e w' => e = .returned (.tuple #[]) ∧ SW (.int .u32) w0 blk off (siftDown ltInt hi F lo d) w' := by
  have S0 : Hid (SW (.int .u32) w0 blk off d w) := S
  clear S
  go_enter Try.func89, Try.ntmps89
  go_wp2
  go_loopw [8, 9] (fun vi v9 wr => ∃ (root : Nat) (dk : Array Int), vi = .int .i64 root ∧ root ≤ d0.size ∧ dk.size = d0.size ∧ Hid (SW (.int .u32) w0 blk off dk wr) ∧ Hid (siftDown ltInt hi F root dk = siftDown ltInt hi F lo d))
    (fun vi v9 _ => hi - (intOf vi).toNat)
  case atStart => exact ⟨lo, d, rfl, hlo, hs, S0, rfl⟩
  case round =>
    clear S0 hs
    obtain ⟨root, dk, rfl, hrl0, hds, S1, H⟩ := hrel
    obtain ⟨c, hc0⟩ : ∃ c, c = 2 * root + 1 := ⟨_, rfl⟩
    have ez : 2 * (root : Int) + 1 = (c : Int) := by omega
    have HC : Hid (c = 2 * root + 1) := hc0
    by_cases h1 : c < hi
    · obtain ⟨G, hG, hc, hf⟩ := row_facts S1.out R hds
      obtain ⟨p, hp⟩ : ∃ p, p = F + c := ⟨_, rfl⟩
      obtain ⟨q, hq⟩ : ∃ q, q = p + 1 := ⟨_, rfl⟩
      have ep : (F : Int) + (c : Int) = (p : Int) := by omega
      have eq1 : (p : Int) + 1 = (q : Int) := by omega
      have hpl : p < d0.size := by omega
      obtain ⟨c2, hc2⟩ : ∃ c2, c2 = c + 1 := ⟨_, rfl⟩
      have ez2 : (c : Int) + 1 = (c2 : Int) := by omega
      have HP : Hid (p = F + c) := hp
      have HQ : Hid (q = p + 1) := hq
      have HC2 : Hid (c2 = c + 1) := hc2
      by_cases h2 : c2 < hi
      · have hql : q < d0.size := by omega
        clear hc0 hp hq hc2
        go_wp2_with fail
        go_big_quiet (first | (go_at_call 80; refine Calls.quiet_of_same (less_u32 _ _ _)))
        go_wp2
        · have ht : ltInt (G p) (G q) = true := by assumption
          have Hch : Hid (c2 = 2 * root + 2 ∧ F + c2 < d0.size + 0 ∧ root < c2 ∧ c2 < hi) := by have := HC.out; have := HC2.out; exact ⟨by omega, by omega, by omega, h2⟩
          have Hst : Hid (siftDown ltInt hi F root dk = if ltInt dk[F + root]! dk[F + c2]! = false then dk else siftDown ltInt hi F c2 (swp dk (F + root) (F + c2))) := by
            have a1 := HC.out; have a2 := HC2.out; have a3 := HP.out; have a4 := HQ.out
            rw [hG.out p, hG.out q, a4, a3, a1] at ht
            rw [a2, a1]
            exact sift_right hi F root dk (by omega) ht
          have hb1 : F + c2 < d0.size ∧ root < c2 := ⟨by have := Hch.out; omega, Hch.out.2.2.1⟩
          have hb2 := hb1.1
          have hb3 := hb1.2
          clear hb1 ht
          have S2 : Hid (SW (.int .u32) w0 blk off dk (wr.drewN nq)) := S1.out.drewN nq
          clear hc hf hG S1 ep eq1
          generalize wr.drewN nq = w2 at S2 ⊢
          obtain ⟨G2, hG2, hc2, hf2⟩ := row_facts S2.out R hds
          obtain ⟨rp, hrp⟩ : ∃ rp, rp = F + root := ⟨_, rfl⟩
          obtain ⟨cp, hcp⟩ : ∃ cp, cp = F + c2 := ⟨_, rfl⟩
          have er : (F : Int) + (root : Int) = (rp : Int) := by omega
          have ec : (F : Int) + (c2 : Int) = (cp : Int) := by omega
          have hrl : rp < d0.size := by omega
          have hcl : cp < d0.size := by omega
          have hrc : rp ≠ cp := by omega
          have HRP : Hid (rp = F + root) := hrp
          have HCP : Hid (cp = F + c2) := hcp
          clear hrp hcp
          obtain ⟨u, hu⟩ := S2.out.c2 R hds rp cp (by omega) (by omega) (.int .u32 (G2 cp))
          go_wp2_with fail
          go_big_quiet (first | (go_at_call 80; refine Calls.quiet_of_same (less_u32 _ _ _)))
          go_wp2
          · have ht : ltInt (G2 rp) (G2 cp) = false := by simp_all
            refine bodyPost_ret (results_none rfl _ _ _) rfl ?_
            refine ⟨rfl, ?_⟩
            have e := Hst.out
            rw [← HRP.out, ← HCP.out, ← hG2.out rp, ← hG2.out cp, ht, if_pos rfl] at e
            rw [← H.out, e]
            exact S2.out.drewN nq
          · have ht : ltInt (G2 rp) (G2 cp) = true := by simp_all
            go_region
            all_goals go_wp2
            go_roundw
            case rel =>
              have h3 := Hch.out
              refine ⟨c2, swp dk rp cp, rfl, by omega, by rw [size_swp]; exact hds, ?_, ?_⟩
              · have := (S2.out.drewN nq).swapped R rp cp (by omega) (by omega)
                rw [← hG2.out rp, ← hG2.out cp] at this
                exact this
              · have e := Hst.out
                rw [← HRP.out, ← HCP.out, ← hG2.out rp, ← hG2.out cp, ht, if_neg (by simp)] at e
                rw [← H.out, e]
                exact rfl
            case measure => have h3 := Hch.out; simp [intOf]; omega
        · have ht : ltInt (G p) (G q) = false := by assumption
          have Hch : Hid (c = 2 * root + 1 ∧ F + c < d0.size + 0 ∧ root < c ∧ c < hi) := by have := HC.out; exact ⟨by omega, by omega, by omega, h1⟩
          have Hst : Hid (siftDown ltInt hi F root dk = if ltInt dk[F + root]! dk[F + c]! = false then dk else siftDown ltInt hi F c (swp dk (F + root) (F + c))) := by
            have a1 := HC.out; have a2 := HC2.out; have a3 := HP.out; have a4 := HQ.out
            rw [hG.out p, hG.out q, a4, a3, a1] at ht
            rw [a1]
            exact sift_left hi F root dk (by omega) (.inr ht)
          have hb1 : F + c < d0.size ∧ root < c := ⟨by have := Hch.out; omega, Hch.out.2.2.1⟩
          have hb2 := hb1.1
          have hb3 := hb1.2
          clear hb1 ht
          have S2 : Hid (SW (.int .u32) w0 blk off dk (wr.drewN nq)) := S1.out.drewN nq
          clear hc hf hG S1 ep eq1
          generalize wr.drewN nq = w2 at S2 ⊢
          obtain ⟨G2, hG2, hc2, hf2⟩ := row_facts S2.out R hds
          obtain ⟨rp, hrp⟩ : ∃ rp, rp = F + root := ⟨_, rfl⟩
          obtain ⟨cp, hcp⟩ : ∃ cp, cp = F + c := ⟨_, rfl⟩
          have er : (F : Int) + (root : Int) = (rp : Int) := by omega
          have ec : (F : Int) + (c : Int) = (cp : Int) := by omega
          have hrl : rp < d0.size := by omega
          have hcl : cp < d0.size := by omega
          have hrc : rp ≠ cp := by omega
          have HRP : Hid (rp = F + root) := hrp
          have HCP : Hid (cp = F + c) := hcp
          clear hrp hcp
          obtain ⟨u, hu⟩ := S2.out.c2 R hds rp cp (by omega) (by omega) (.int .u32 (G2 cp))
          go_wp2_with fail
          go_big_quiet (first | (go_at_call 80; refine Calls.quiet_of_same (less_u32 _ _ _)))
          go_wp2
          · have ht : ltInt (G2 rp) (G2 cp) = false := by simp_all
            refine bodyPost_ret (results_none rfl _ _ _) rfl ?_
            refine ⟨rfl, ?_⟩
            have e := Hst.out
            rw [← HRP.out, ← HCP.out, ← hG2.out rp, ← hG2.out cp, ht, if_pos rfl] at e
            rw [← H.out, e]
            exact S2.out.drewN nq
          · have ht : ltInt (G2 rp) (G2 cp) = true := by simp_all
            go_region
            all_goals go_wp2
            go_roundw
            case rel =>
              have h3 := Hch.out
              refine ⟨c, swp dk rp cp, rfl, by omega, by rw [size_swp]; exact hds, ?_, ?_⟩
              · have := (S2.out.drewN nq).swapped R rp cp (by omega) (by omega)
                rw [← hG2.out rp, ← hG2.out cp] at this
                exact this
              · have e := Hst.out
                rw [← HRP.out, ← HCP.out, ← hG2.out rp, ← hG2.out cp, ht, if_neg (by simp)] at e
                rw [← H.out, e]
                exact rfl
            case measure => have h3 := Hch.out; simp [intOf]; omega
      · clear hc0 hp hq hc2
        go_wp2_with fail
        go_big_quiet (fail)
        go_wp2
        have Hch : Hid (c = 2 * root + 1 ∧ F + c < d0.size + 0 ∧ root < c ∧ c < hi) := by have := HC.out; exact ⟨by omega, by omega, by omega, h1⟩
        have Hst : Hid (siftDown ltInt hi F root dk = if ltInt dk[F + root]! dk[F + c]! = false then dk else siftDown ltInt hi F c (swp dk (F + root) (F + c))) := by
          have a1 := HC.out; have a2 := HC2.out
          rw [a1]
          exact sift_left hi F root dk (by omega) (.inl (by omega))
        have hb1 : F + c < d0.size ∧ root < c := ⟨by have := Hch.out; omega, Hch.out.2.2.1⟩
        have hb2 := hb1.1
        have hb3 := hb1.2
        clear hb1
        have S2 : Hid (SW (.int .u32) w0 blk off dk (wr.drewN nq)) := S1.out.drewN nq
        clear hc hf hG S1 ep eq1
        generalize wr.drewN nq = w2 at S2 ⊢
        obtain ⟨G2, hG2, hc2, hf2⟩ := row_facts S2.out R hds
        obtain ⟨rp, hrp⟩ : ∃ rp, rp = F + root := ⟨_, rfl⟩
        obtain ⟨cp, hcp⟩ : ∃ cp, cp = F + c := ⟨_, rfl⟩
        have er : (F : Int) + (root : Int) = (rp : Int) := by omega
        have ec : (F : Int) + (c : Int) = (cp : Int) := by omega
        have hrl : rp < d0.size := by omega
        have hcl : cp < d0.size := by omega
        have hrc : rp ≠ cp := by omega
        have HRP : Hid (rp = F + root) := hrp
        have HCP : Hid (cp = F + c) := hcp
        clear hrp hcp
        obtain ⟨u, hu⟩ := S2.out.c2 R hds rp cp (by omega) (by omega) (.int .u32 (G2 cp))
        go_wp2_with fail
        go_big_quiet (first | (go_at_call 80; refine Calls.quiet_of_same (less_u32 _ _ _)))
        go_wp2
        · have ht : ltInt (G2 rp) (G2 cp) = false := by simp_all
          refine bodyPost_ret (results_none rfl _ _ _) rfl ?_
          refine ⟨rfl, ?_⟩
          have e := Hst.out
          rw [← HRP.out, ← HCP.out, ← hG2.out rp, ← hG2.out cp, ht, if_pos rfl] at e
          rw [← H.out, e]
          exact S2.out.drewN nq
        · have ht : ltInt (G2 rp) (G2 cp) = true := by simp_all
          go_region
          all_goals go_wp2
          go_roundw
          case rel =>
            have h3 := Hch.out
            refine ⟨c, swp dk rp cp, rfl, by omega, by rw [size_swp]; exact hds, ?_, ?_⟩
            · have := (S2.out.drewN nq).swapped R rp cp (by omega) (by omega)
              rw [← hG2.out rp, ← hG2.out cp] at this
              exact this
            · have e := Hst.out
              rw [← HRP.out, ← HCP.out, ← hG2.out rp, ← hG2.out cp, ht, if_neg (by simp)] at e
              rw [← H.out, e]
              exact rfl
          case measure => have h3 := Hch.out; simp [intOf]; omega
    · have e := sift_stop hi F root dk (by omega)
      clear hc0
      go_wp2
      go_end0
      refine ⟨rfl, ?_⟩
      rw [← H.out, e]
      exact S1.out
theorem sift_size (hi F root : Nat) (d : Array Int) : (siftDown ltInt hi F root d).size = d.size := size_siftDown ltInt hi F _ root d (Nat.le_refl _)
set_option maxHeartbeats 8000000 in
set_option maxRecDepth 100000 in
theorem heap_u32 (blk off cap a b : Nat) (d0 d : Array Int) (w0 w : World) (R : Row1 (.int .u32) w0 blk off d0) (hs : d.size = d0.size) (S : SW (.int .u32) w0 blk off d w) (hab : a < b) (hb : b ≤ d0.size) (hsz : d0.size < 4611686018427387904) :
    Calls Try.prog 75 #[.slice (some ⟨blk, off, none⟩) d0.size cap, .int .i64 a, .int .i64 b] w fun e w' => e = .returned (.tuple #[]) ∧ SW (.int .u32) w0 blk off (heapSort ltInt d a b) w' := by
  have S0 : Hid (SW (.int .u32) w0 blk off d w) := S
  clear S
  obtain ⟨n, hn⟩ : ∃ n, n = b - a := ⟨_, rfl⟩
  have en : (b : Int) - (a : Int) = (n : Int) := by omega
  obtain ⟨m, hm⟩ : ∃ m : Nat, m = (n - 1) / 2 := ⟨_, rfl⟩
  have em : ((n : Int) - 1).tdiv 2 = (m : Int) := by rw [Int.tdiv_eq_ediv_of_nonneg (by omega)]; omega
  have hnb : a + n ≤ d0.size := by omega
  have hmn : m ≤ n := by omega
  have HN : Hid (heapSort ltInt d a b = heapPop ltInt a n (heapBuild ltInt n a (m + 1) d)) := by rw [hm, hn]; exact rfl
  have hnl : n < 4611686018427387904 := by omega
  clear hn hm
  go_enter Try.func75, Try.ntmps75
  go_wp2
  go_loopw [9] (fun vi wr => ∃ (k : Nat) (dk : Array Int), vi = .int .i64 ((k : Int) - 1) ∧ k ≤ m + 1 ∧ dk.size = d0.size ∧ Hid (SW (.int .u32) w0 blk off dk wr) ∧ Hid (heapBuild ltInt n a k dk = heapBuild ltInt n a (m + 1) d))
    (fun vi _ => (intOf vi + 1).toNat)
  case atStart => exact ⟨m + 1, d, by congr 1; omega, Nat.le_refl _, hs, S0, rfl⟩
  case round =>
    clear S0 hs
    obtain ⟨k, dk, rfl, hk, hds, S1, H⟩ := hrel
    cases k with
    | zero =>
      have e1 : dk = heapBuild ltInt n a (m + 1) d := H.out
      have HE : Hid (dk = heapBuild ltInt n a (m + 1) d) := e1
      clear e1 H hk
      go_wp2
      go_loopw [10] (fun vi wr => ∃ (k : Nat) (dj : Array Int), vi = .int .i64 ((k : Int) - 1) ∧ k ≤ n ∧ dj.size = d0.size ∧ Hid (SW (.int .u32) w0 blk off dj wr) ∧ Hid (heapPop ltInt a k dj = heapPop ltInt a n dk))
        (fun vi _ => (intOf vi + 1).toNat)
      case atStart => exact ⟨n, dk, rfl, Nat.le_refl _, hds, S1, rfl⟩
      case round =>
        clear S1 hds
        obtain ⟨k, dj, rfl, hk, hdj, S2, H2⟩ := hrel
        cases k with
        | zero =>
          go_wp2
          go_end0
          refine ⟨rfl, ?_⟩
          rw [HN.out, ← HE.out, ← H2.out]
          exact S2.out
        | succ i =>
          have ei : ((i + 1 : Nat) : Int) - 1 = (i : Int) := by omega
          rw [ei]
          obtain ⟨G, hG, hc, hf⟩ := row_facts S2.out R hdj
          obtain ⟨p, hp⟩ : ∃ p, p = a + i := ⟨_, rfl⟩
          have ep : (a : Int) + (i : Int) = (p : Int) := by omega
          have hpl : p < d0.size := by omega
          have hal : a < d0.size := by omega
          obtain ⟨u, hu⟩ := S2.out.c2 R hdj a p (by omega) (by omega) (.int .u32 (G p))
          have hin : i ≤ n := by omega
          have S3 : Hid (SW (.int .u32) w0 blk off (swp dj a p) ((wr.setCell ⟨blk, off + a, none⟩ (.int .u32 (G p))).setCell ⟨blk, off + p, none⟩ (.int .u32 (G a))).drew) := by
            have := S2.out.swapped R a p (by omega) (by omega)
            rw [← hG.out a, ← hG.out p] at this
            exact this
          have HP : Hid (p = a + i) := hp
          have hcall := sift_u32 blk off cap 0 i a d0 (swp dj a p) w0 ((wr.setCell ⟨blk, off + a, none⟩ (.int .u32 (G p))).setCell ⟨blk, off + p, none⟩ (.int .u32 (G a))).drew R (by rw [size_swp]; exact hdj) S3.out (by omega) (by omega) hsz
          have HCON := Hid.mk' hcall
          clear hcall
          by_cases hne : a = p
          · subst hne
            clear hp
            go_wp2_with fail
            go_region
            all_goals (go_wp2_with (first | (go_at_call 89; refine HCON.out.mono ?_; rintro e w1 ⟨rfl, h1⟩; have S4 := Hid.mk' h1; clear h1)))
            rotate_left
            go_roundw
            case rel =>
              repeat apply Exists.intro
              refine ⟨⟨i, siftDown ltInt i a 0 (swp dj a a), rfl, hin, by rw [sift_size, size_swp]; exact hdj, S4.out, ?_⟩, rfl⟩
              have h := H2.out
              rw [heapPop, ← HP.out] at h
              exact h
            case measure => simp [intOf]
            all_goals exact Value.bool false
          · clear hp
            go_wp2_with fail
            go_region
            all_goals (go_wp2_with (first | (go_at_call 89; refine HCON.out.mono ?_; rintro e w1 ⟨rfl, h1⟩; have S4 := Hid.mk' h1; clear h1)))
            go_roundw
            case rel =>
              repeat apply Exists.intro
              refine ⟨⟨i, siftDown ltInt i a 0 (swp dj a p), rfl, hin, by rw [sift_size, size_swp]; exact hdj, S4.out, ?_⟩, rfl⟩
              have h := H2.out
              rw [heapPop, ← HP.out] at h
              exact h
            case measure => simp [intOf]
    | succ k =>
      have ei : ((k + 1 : Nat) : Int) - 1 = (k : Int) := by omega
      rw [ei]
      have HCON := Hid.mk' (sift_u32 blk off cap k n a d0 dk w0 wr R hds S1.out (by omega) (by omega) hsz)
      go_wp2_with (first | (go_at_call 89; refine HCON.out.mono ?_; rintro e w1 ⟨rfl, h1⟩; have S4 := Hid.mk' h1; clear h1))
      go_roundw
      case rel => exact ⟨k, siftDown ltInt n a k dk, rfl, by omega, by rw [sift_size]; exact hds, S4.out, H.out⟩
      case measure => simp [intOf]
set_option maxHeartbeats 16000000 in
set_option maxRecDepth 100000 in
theorem partition_u32 (blk off cap a b pivot : Nat) (d0 d : Array Int) (w0 w : World) (R : Row1 (.int .u32) w0 blk off d0) (hs : d.size = d0.size) (S : SW (.int .u32) w0 blk off d w) (hap : a ≤ pivot) (hpb : pivot < b) (hb : b ≤ d0.size) (hsz : d0.size < 4611686018427387904) :
    Calls Try.prog 82 #[.slice (some ⟨blk, off, none⟩) d0.size cap, .int .i64 a, .int .i64 b, .int .i64 pivot] w fun e w' =>
      e = .returned (.tuple #[.int .i64 (Sort.partition ltInt d a b pivot).1, .bool (Sort.partition ltInt d a b pivot).2.1]) ∧ SW (.int .u32) w0 blk off (Sort.partition ltInt d a b pivot).2.2 w' := by
  have hal : a < d0.size := by omega
  have hpl0 : pivot < d0.size := by omega
  obtain ⟨G, hG, hc, hf⟩ := row_facts S R hs
  obtain ⟨u, hu⟩ := S.c2 R hs a pivot (by omega) (by omega) (.int .u32 (G pivot))
  have S0 : Hid (SW (.int .u32) w0 blk off (swp d a pivot) ((w.setCell ⟨blk, off + a, none⟩ (.int .u32 (G pivot))).setCell ⟨blk, off + pivot, none⟩ (.int .u32 (G a))).drew) := by
    have := S.swapped R a pivot (by omega) (by omega)
    rw [← hG.out a, ← hG.out pivot] at this
    exact this
  clear S
  go_enter Try.func82, Try.ntmps82
  go_wp2
  go_region
  all_goals go_wp2
  clear hc hf hu
  generalize ((w.setCell ⟨blk, off + a, none⟩ (.int .u32 (G pivot))).setCell ⟨blk, off + pivot, none⟩ (.int .u32 (G a))).drew = w1 at S0 ⊢
  clear hG
  obtain ⟨i, hi⟩ : ∃ i : Nat, i = a + 1 := ⟨_, rfl⟩
  obtain ⟨j, hj⟩ : ∃ j : Nat, j = b - 1 := ⟨_, rfl⟩
  obtain ⟨dk, hdk⟩ : ∃ dk : Array Int, dk = swp d a pivot := ⟨_, rfl⟩
  have S1 : Hid (SW (.int .u32) w0 blk off dk w1) := by rw [hdk]; exact S0.out
  clear S0
  have hds : dk.size = d0.size := by rw [hdk, size_swp]; exact hs
  have e1 : ((a : Int) + 1) = (i : Int) := by omega
  have e2 : ((b : Int) - 1) = (j : Int) := by omega
  rw [e1, e2]
  clear e1 e2
  have hai : a < i := by omega
  have hij : i ≤ j + 1 := by omega
  have hjb : j < b := by omega
  have Hi : Hid (i = a + 1) := hi
  have Hj : Hid (j = b - 1) := hj
  have Hdk : Hid (dk = swp d a pivot) := hdk
  clear hi hj hdk hs
  go_loopw [10] (fun vi wr => ∃ p : Nat, vi = .int .i64 p ∧ i ≤ p ∧ p ≤ j + 1 ∧ Hid (SW (.int .u32) w0 blk off dk wr) ∧ Hid (scanUp (fun x => ltInt x dk[a]!) dk j p = scanUp (fun x => ltInt x dk[a]!) dk j i))
    (fun vi _ => j + 1 - (intOf vi).toNat)
  case atStart => exact ⟨i, rfl, Nat.le_refl _, hij, S1, rfl⟩
  case round =>
    clear S1
    obtain ⟨p, rfl, hip, hpj, S2, HU⟩ := hrel
    by_cases hle : p ≤ j
    · obtain ⟨G, hG, hc, hf⟩ := row_facts S2.out R hds
      have hpl : p < d0.size := by omega
      go_wp2_with fail
      go_big_quiet (first | (go_at_call 80; refine Calls.quiet_of_same (less_u32 _ _ _)))
      go_wp2
      · have ht : ltInt (G p) (G a) = true := by assumption
        go_roundw
        case rel => exact ⟨p + 1, by go_num, by omega, by omega, S2.out.drewN nq, (scanUp_go (fun x => ltInt x dk[a]!) dk j p hle (by rw [← hG.out a, ← hG.out p]; exact ht)).symm.trans HU.out⟩
        case measure => simp [intOf]; omega
      · have ht : ltInt (G p) (G a) = false := by assumption
        have HI2 : Hid (p = scanUp (fun x => ltInt x dk[a]!) dk j i) := (scanUp_end (fun x => ltInt x dk[a]!) dk j p (.inr (by rw [← hG.out a, ← hG.out p]; exact ht))).symm.trans HU.out
        have S3 : Hid (SW (.int .u32) w0 blk off dk (wr.drewN nq)) := S2.out.drewN nq
        clear hc hf hG S2 HU ht
        go_loopw [11] (fun vj wr => ∃ q : Nat, vj = .int .i64 q ∧ q ≤ j ∧ p ≤ q + 1 ∧ Hid (SW (.int .u32) w0 blk off dk wr) ∧ Hid (scanDown (fun x => !ltInt x dk[a]!) dk p q = scanDown (fun x => !ltInt x dk[a]!) dk p j))
          (fun vj _ => (intOf vj).toNat)
        case atStart => exact ⟨j, rfl, Nat.le_refl _, hpj, S3, rfl⟩
        case round =>
          clear S3
          obtain ⟨q, rfl, hqj, hpq, S4, HD⟩ := hrel
          by_cases hle2 : p ≤ q
          · obtain ⟨G, hG, hc, hf⟩ := row_facts S4.out R hds
            have hql : q < d0.size := by omega
            go_wp2_with fail
            go_big_quiet (first | (go_at_call 80; refine Calls.quiet_of_same (less_u32 _ _ _)))
            go_wp2
            · have ht : (!ltInt (G q) (G a)) = true := by assumption
              go_roundw
              case rel => exact ⟨q - 1, by go_num, by omega, by omega, S4.out.drewN nq, (scanDown_go (fun x => !ltInt x dk[a]!) dk p q hle2 (by omega) (by rw [← hG.out a, ← hG.out q]; exact ht)).symm.trans HD.out⟩
              case measure => simp [intOf]; omega
            · have ht : (!ltInt (G q) (G a)) = false := by assumption
              have HJ2 : Hid (q = scanDown (fun x => !ltInt x dk[a]!) dk p j) := (scanDown_end (fun x => !ltInt x dk[a]!) dk p q (.inr (by rw [← hG.out a, ← hG.out q]; exact ht))).symm.trans HD.out
              have S5 : Hid (SW (.int .u32) w0 blk off dk (wr.drewN nq)) := S4.out.drewN nq
              clear hc hf hG S4 HD ht
              generalize wr.drewN nq = w5 at S5 ⊢
              have hlt := part_scans_lt ltInt a i j dk (by omega) HI2.out HJ2.out hle2
              obtain ⟨G, hG, hc, hf⟩ := row_facts S5.out R hds
              have hpl : p < d0.size := by omega
              have hql : q < d0.size := by omega
              obtain ⟨u, hu⟩ := S5.out.c2 R hds p q (by omega) (by omega) (.int .u32 (G q))
              have S6 : Hid (SW (.int .u32) w0 blk off (swp dk p q) ((w5.setCell ⟨blk, off + p, none⟩ (.int .u32 (G q))).setCell ⟨blk, off + q, none⟩ (.int .u32 (G p))).drew) := by
                have := S5.out.swapped R p q (by omega) (by omega)
                rw [← hG.out p, ← hG.out q] at this
                exact this
              clear S5
              go_wp2
              go_region
              all_goals go_wp2
              obtain ⟨Rr, hR⟩ : ∃ Rr, Rr = partLoop ltInt a (p + 1) (q - 1) (swp dk p q) := ⟨_, rfl⟩
              have HP : Hid (Sort.partition ltInt d a b pivot = (Rr.1, false, swp Rr.2 Rr.1 a)) := by rw [hR]; exact part_first_go ltInt d a b pivot Hi.out Hj.out Hdk.out HI2.out HJ2.out (by omega)
              have HR : Hid (Rr = partLoop ltInt a (p + 1) (q - 1) (swp dk p q)) := hR
              clear hR hc hf hG hu HI2 HJ2
              go_loopw [10, 11] (fun vi vj wr => ∃ (i j : Nat) (dk : Array Int), vi = .int .i64 i ∧ vj = .int .i64 j ∧ a < i ∧ i ≤ j + 1 ∧ j < b ∧ dk.size = d0.size ∧ Hid (SW (.int .u32) w0 blk off dk wr) ∧ Hid (partLoop ltInt a i j dk = Rr))
                (fun vi vj _ => (intOf vj).toNat + 1 - (intOf vi).toNat)
              case atStart => exact ⟨p + 1, q - 1, swp dk p q, by go_num, by go_num, by omega, by omega, by omega, by rw [size_swp]; exact hds, S6, HR.out.symm⟩
              case round =>
                clear S6 HR
                clear hai hij hjb hip hpj hle hle2 hlt hqj hpq hpl hql hds Hi Hj Hdk
                obtain ⟨i1, j1, dk1, rfl, rfl, hai, hij, hjb, hds, S1, HL⟩ := hrel
                go_wp2
                go_loopw [10] (fun vi wr => ∃ p1 : Nat, vi = .int .i64 p1 ∧ i1 ≤ p1 ∧ p1 ≤ j1 + 1 ∧ Hid (SW (.int .u32) w0 blk off dk1 wr) ∧ Hid (scanUp (fun x => ltInt x dk1[a]!) dk1 j1 p1 = scanUp (fun x => ltInt x dk1[a]!) dk1 j1 i1))
                  (fun vi _ => j1 + 1 - (intOf vi).toNat)
                case atStart => exact ⟨i1, rfl, Nat.le_refl _, hij, S1, rfl⟩
                case round =>
                  clear S1
                  obtain ⟨p1, rfl, hip, hpj, S2, HU⟩ := hrel
                  by_cases hle : p1 ≤ j1
                  · obtain ⟨G, hG, hc, hf⟩ := row_facts S2.out R hds
                    have hpl : p1 < d0.size := by omega
                    go_wp2_with fail
                    go_big_quiet (first | (go_at_call 80; refine Calls.quiet_of_same (less_u32 _ _ _)))
                    go_wp2
                    · have ht : ltInt (G p1) (G a) = true := by assumption
                      go_roundw
                      case rel => exact ⟨p1 + 1, by go_num, by omega, by omega, S2.out.drewN nq, (scanUp_go (fun x => ltInt x dk1[a]!) dk1 j1 p1 hle (by rw [← hG.out a, ← hG.out p1]; exact ht)).symm.trans HU.out⟩
                      case measure => simp [intOf]; omega
                    · have ht : ltInt (G p1) (G a) = false := by assumption
                      have HI2 : Hid (p1 = scanUp (fun x => ltInt x dk1[a]!) dk1 j1 i1) := (scanUp_end (fun x => ltInt x dk1[a]!) dk1 j1 p1 (.inr (by rw [← hG.out a, ← hG.out p1]; exact ht))).symm.trans HU.out
                      have S3 : Hid (SW (.int .u32) w0 blk off dk1 (wr.drewN nq)) := S2.out.drewN nq
                      clear hc hf hG S2 HU ht
                      go_loopw [11] (fun vj wr => ∃ q1 : Nat, vj = .int .i64 q1 ∧ q1 ≤ j1 ∧ p1 ≤ q1 + 1 ∧ Hid (SW (.int .u32) w0 blk off dk1 wr) ∧ Hid (scanDown (fun x => !ltInt x dk1[a]!) dk1 p1 q1 = scanDown (fun x => !ltInt x dk1[a]!) dk1 p1 j1))
                        (fun vj _ => (intOf vj).toNat)
                      case atStart => exact ⟨j1, rfl, Nat.le_refl _, hpj, S3, rfl⟩
                      case round =>
                        clear S3
                        obtain ⟨q1, rfl, hqj, hpq, S4, HD⟩ := hrel
                        by_cases hle2 : p1 ≤ q1
                        · obtain ⟨G, hG, hc, hf⟩ := row_facts S4.out R hds
                          have hql : q1 < d0.size := by omega
                          go_wp2_with fail
                          go_big_quiet (first | (go_at_call 80; refine Calls.quiet_of_same (less_u32 _ _ _)))
                          go_wp2
                          · have ht : (!ltInt (G q1) (G a)) = true := by assumption
                            go_roundw
                            case rel => exact ⟨q1 - 1, by go_num, by omega, by omega, S4.out.drewN nq, (scanDown_go (fun x => !ltInt x dk1[a]!) dk1 p1 q1 hle2 (by omega) (by rw [← hG.out a, ← hG.out q1]; exact ht)).symm.trans HD.out⟩
                            case measure => simp [intOf]; omega
                          · have ht : (!ltInt (G q1) (G a)) = false := by assumption
                            have HJ2 : Hid (q1 = scanDown (fun x => !ltInt x dk1[a]!) dk1 p1 j1) := (scanDown_end (fun x => !ltInt x dk1[a]!) dk1 p1 q1 (.inr (by rw [← hG.out a, ← hG.out q1]; exact ht))).symm.trans HD.out
                            have S5 : Hid (SW (.int .u32) w0 blk off dk1 (wr.drewN nq)) := S4.out.drewN nq
                            clear hc hf hG S4 HD ht
                            generalize wr.drewN nq = w5 at S5 ⊢
                            have hlt := part_scans_lt ltInt a i1 j1 dk1 (by omega) HI2.out HJ2.out hle2
                            obtain ⟨G, hG, hc, hf⟩ := row_facts S5.out R hds
                            have hpl : p1 < d0.size := by omega
                            have hql : q1 < d0.size := by omega
                            obtain ⟨u, hu⟩ := S5.out.c2 R hds p1 q1 (by omega) (by omega) (.int .u32 (G q1))
                            have S6 : Hid (SW (.int .u32) w0 blk off (swp dk1 p1 q1) ((w5.setCell ⟨blk, off + p1, none⟩ (.int .u32 (G q1))).setCell ⟨blk, off + q1, none⟩ (.int .u32 (G p1))).drew) := by
                              have := S5.out.swapped R p1 q1 (by omega) (by omega)
                              rw [← hG.out p1, ← hG.out q1] at this
                              exact this
                            clear S5
                            go_wp2
                            go_region
                            all_goals go_wp2
                            go_roundw
                            case rel =>
                              refine ⟨p1 + 1, q1 - 1, swp dk1 p1 q1, by go_num, by go_num, by omega, by omega, by omega, by rw [size_swp]; exact hds, S6, ?_⟩
                              rw [← HL.out, part_go ltInt a i1 j1 dk1 HI2.out HJ2.out (by omega)]
                              exact rfl
                            case measure => simp [intOf]; omega
                        · have HJ2 : Hid (q1 = scanDown (fun x => !ltInt x dk1[a]!) dk1 p1 j1) := (scanDown_end (fun x => !ltInt x dk1[a]!) dk1 p1 q1 (.inl hle2)).symm.trans HD.out
                          go_wp2_with fail
                          go_big_quiet (fail)
                          have S5 : Hid (SW (.int .u32) w0 blk off dk1 (wr.drewN nq)) := S4.out.drewN nq
                          clear S4 HD
                          generalize wr.drewN nq = w5 at S5 ⊢
                          have hlt : q1 < p1 := by omega
                          go_wp2_with fail
                          obtain ⟨G, hG, hc, hf⟩ := row_facts S5.out R hds
                          have hql : q1 < d0.size := by omega
                          have hal : a < d0.size := by omega
                          obtain ⟨u, hu⟩ := S5.out.c2 R hds q1 a (by omega) (by omega) (.int .u32 (G a))
                          have S6 : Hid (SW (.int .u32) w0 blk off (swp dk1 q1 a) ((w5.setCell ⟨blk, off + q1, none⟩ (.int .u32 (G a))).setCell ⟨blk, off + a, none⟩ (.int .u32 (G q1))).drew) := by
                            have := S5.out.swapped R q1 a (by omega) (by omega)
                            rw [← hG.out q1, ← hG.out a] at this
                            exact this
                          clear S5
                          go_wp2
                          go_region
                          all_goals go_wp2
                          go_ret2
                          have e := HL.out
                          rw [part_break ltInt a i1 j1 dk1 HI2.out HJ2.out hlt] at e
                          rw [HP.out, ← e]
                          exact ⟨rfl, S6.out⟩
                  · have HI2 : Hid (p1 = scanUp (fun x => ltInt x dk1[a]!) dk1 j1 i1) := (scanUp_end (fun x => ltInt x dk1[a]!) dk1 j1 p1 (.inl hle)).symm.trans HU.out
                    go_wp2_with fail
                    go_big_quiet (fail)
                    have S3 : Hid (SW (.int .u32) w0 blk off dk1 (wr.drewN nq)) := S2.out.drewN nq
                    clear S2 HU
                    generalize wr.drewN nq = w3 at S3 ⊢
                    go_wp2_with fail
                    go_loopw [11] (fun vj wr => vj = .int .i64 j1 ∧ Hid (SW (.int .u32) w0 blk off dk1 wr)) (fun vj _ => 0)
                    case atStart => exact ⟨rfl, S3⟩
                    case round =>
                      clear S3
                      obtain ⟨rfl, S4⟩ := hrel
                      have HJ2 : Hid (j1 = scanDown (fun x => !ltInt x dk1[a]!) dk1 p1 j1) := (scanDown_end (fun x => !ltInt x dk1[a]!) dk1 p1 j1 (.inl hle)).symm
                      go_wp2_with fail
                      go_big_quiet (fail)
                      have S5 : Hid (SW (.int .u32) w0 blk off dk1 (wr.drewN nq)) := S4.out.drewN nq
                      clear S4
                      generalize wr.drewN nq = w5 at S5 ⊢
                      have hlt : j1 < p1 := by omega
                      go_wp2_with fail
                      obtain ⟨G, hG, hc, hf⟩ := row_facts S5.out R hds
                      have hql : j1 < d0.size := by omega
                      have hal : a < d0.size := by omega
                      obtain ⟨u, hu⟩ := S5.out.c2 R hds j1 a (by omega) (by omega) (.int .u32 (G a))
                      have S6 : Hid (SW (.int .u32) w0 blk off (swp dk1 j1 a) ((w5.setCell ⟨blk, off + j1, none⟩ (.int .u32 (G a))).setCell ⟨blk, off + a, none⟩ (.int .u32 (G j1))).drew) := by
                        have := S5.out.swapped R j1 a (by omega) (by omega)
                        rw [← hG.out j1, ← hG.out a] at this
                        exact this
                      clear S5
                      go_wp2
                      go_region
                      all_goals go_wp2
                      go_ret2
                      have e := HL.out
                      rw [part_break ltInt a i1 j1 dk1 HI2.out HJ2.out hlt] at e
                      rw [HP.out, ← e]
                      exact ⟨rfl, S6.out⟩
          · have HJ2 : Hid (q = scanDown (fun x => !ltInt x dk[a]!) dk p j) := (scanDown_end (fun x => !ltInt x dk[a]!) dk p q (.inl hle2)).symm.trans HD.out
            go_wp2_with fail
            go_big_quiet (fail)
            have S5 : Hid (SW (.int .u32) w0 blk off dk (wr.drewN nq)) := S4.out.drewN nq
            clear S4 HD
            generalize wr.drewN nq = w5 at S5 ⊢
            have hlt : q < p := by omega
            go_wp2_with fail
            obtain ⟨G, hG, hc, hf⟩ := row_facts S5.out R hds
            have hql : q < d0.size := by omega
            have hal : a < d0.size := by omega
            obtain ⟨u, hu⟩ := S5.out.c2 R hds q a (by omega) (by omega) (.int .u32 (G a))
            have S6 : Hid (SW (.int .u32) w0 blk off (swp dk q a) ((w5.setCell ⟨blk, off + q, none⟩ (.int .u32 (G a))).setCell ⟨blk, off + a, none⟩ (.int .u32 (G q))).drew) := by
              have := S5.out.swapped R q a (by omega) (by omega)
              rw [← hG.out q, ← hG.out a] at this
              exact this
            clear S5
            go_wp2
            go_region
            all_goals go_wp2
            go_ret2
            have e := part_first_break ltInt d a b pivot Hi.out Hj.out Hdk.out HI2.out HJ2.out hlt
            rw [e]
            exact ⟨rfl, S6.out⟩
    · have HI2 : Hid (p = scanUp (fun x => ltInt x dk[a]!) dk j i) := (scanUp_end (fun x => ltInt x dk[a]!) dk j p (.inl hle)).symm.trans HU.out
      go_wp2_with fail
      go_big_quiet (fail)
      have S3 : Hid (SW (.int .u32) w0 blk off dk (wr.drewN nq)) := S2.out.drewN nq
      clear S2 HU
      generalize wr.drewN nq = w3 at S3 ⊢
      go_wp2_with fail
      go_loopw [11] (fun vj wr => vj = .int .i64 j ∧ Hid (SW (.int .u32) w0 blk off dk wr)) (fun vj _ => 0)
      case atStart => exact ⟨rfl, S3⟩
      case round =>
        clear S3
        obtain ⟨rfl, S4⟩ := hrel
        have HJ2 : Hid (j = scanDown (fun x => !ltInt x dk[a]!) dk p j) := (scanDown_end (fun x => !ltInt x dk[a]!) dk p j (.inl hle)).symm
        go_wp2_with fail
        go_big_quiet (fail)
        have S5 : Hid (SW (.int .u32) w0 blk off dk (wr.drewN nq)) := S4.out.drewN nq
        clear S4
        generalize wr.drewN nq = w5 at S5 ⊢
        have hlt : j < p := by omega
        go_wp2_with fail
        obtain ⟨G, hG, hc, hf⟩ := row_facts S5.out R hds
        have hql : j < d0.size := by omega
        have hal : a < d0.size := by omega
        obtain ⟨u, hu⟩ := S5.out.c2 R hds j a (by omega) (by omega) (.int .u32 (G a))
        have S6 : Hid (SW (.int .u32) w0 blk off (swp dk j a) ((w5.setCell ⟨blk, off + j, none⟩ (.int .u32 (G a))).setCell ⟨blk, off + a, none⟩ (.int .u32 (G j))).drew) := by
          have := S5.out.swapped R j a (by omega) (by omega)
          rw [← hG.out j, ← hG.out a] at this
          exact this
        clear S5
        go_wp2
        go_region
        all_goals go_wp2
        go_ret2
        have e := part_first_break ltInt d a b pivot Hi.out Hj.out Hdk.out HI2.out HJ2.out hlt
        rw [e]
        exact ⟨rfl, S6.out⟩
theorem eq_end (a i j p q : Nat) (d : Array Int) (hp : p = scanUp (fun x => !ltInt d[a]! x) d j i) (hq : q = scanDown (fun x => ltInt d[a]! x) d p j) (h : q < p) : partEqLoop ltInt a i j d = (p, d) := by
  subst hp; subst hq
  rw [partEqLoop_eq, if_pos h]
theorem eq_go (a i j p q : Nat) (d : Array Int) (hp : p = scanUp (fun x => !ltInt d[a]! x) d j i) (hq : q = scanDown (fun x => ltInt d[a]! x) d p j) (h : ¬ p > q) : partEqLoop ltInt a i j d = partEqLoop ltInt a (p + 1) (q - 1) (swp d p q) := by
  subst hp; subst hq
  rw [partEqLoop_eq, if_neg h]
set_option maxHeartbeats 16000000 in
set_option maxRecDepth 100000 in
theorem partEq_u32 (blk off cap a b pivot : Nat) (d0 d : Array Int) (w0 w : World) (R : Row1 (.int .u32) w0 blk off d0) (hs : d.size = d0.size) (S : SW (.int .u32) w0 blk off d w) (hap : a ≤ pivot) (hpb : pivot < b) (hb : b ≤ d0.size) (hsz : d0.size < 4611686018427387904) :
    Calls Try.prog 81 #[.slice (some ⟨blk, off, none⟩) d0.size cap, .int .i64 a, .int .i64 b, .int .i64 pivot] w fun e w' =>
      e = .returned (.int .i64 (partitionEqual ltInt d a b pivot).1) ∧ SW (.int .u32) w0 blk off (partitionEqual ltInt d a b pivot).2 w' := by
  have hal : a < d0.size := by omega
  have hpl0 : pivot < d0.size := by omega
  obtain ⟨G, hG, hc, hf⟩ := row_facts S R hs
  obtain ⟨u, hu⟩ := S.c2 R hs a pivot (by omega) (by omega) (.int .u32 (G pivot))
  have S0 : Hid (SW (.int .u32) w0 blk off (swp d a pivot) ((w.setCell ⟨blk, off + a, none⟩ (.int .u32 (G pivot))).setCell ⟨blk, off + pivot, none⟩ (.int .u32 (G a))).drew) := by
    have := S.swapped R a pivot (by omega) (by omega)
    rw [← hG.out a, ← hG.out pivot] at this
    exact this
  clear S
  go_enter Try.func81, Try.ntmps81
  go_wp2
  go_region
  all_goals go_wp2
  clear hc hf hu
  generalize ((w.setCell ⟨blk, off + a, none⟩ (.int .u32 (G pivot))).setCell ⟨blk, off + pivot, none⟩ (.int .u32 (G a))).drew = w1 at S0 ⊢
  clear hG
  obtain ⟨Rr, hR⟩ : ∃ Rr, Rr = partEqLoop ltInt a (a + 1) (b - 1) (swp d a pivot) := ⟨_, rfl⟩
  have HP : Hid (partitionEqual ltInt d a b pivot = Rr) := by rw [hR]; exact rfl
  have HR : Hid (Rr = partEqLoop ltInt a (a + 1) (b - 1) (swp d a pivot)) := hR
  clear hR
  go_loopw [9, 10] (fun vi vj wr => ∃ (i j : Nat) (dk : Array Int), vi = .int .i64 i ∧ vj = .int .i64 j ∧ a < i ∧ i ≤ j + 1 ∧ j < b ∧ dk.size = d0.size ∧ Hid (SW (.int .u32) w0 blk off dk wr) ∧ Hid (partEqLoop ltInt a i j dk = Rr))
    (fun vi vj _ => (intOf vj).toNat + 1 - (intOf vi).toNat)
  case atStart => exact ⟨a + 1, b - 1, swp d a pivot, by go_num, by congr 1; omega, by omega, by omega, by omega, by rw [size_swp]; exact hs, S0, HR.out.symm⟩
  case round =>
    clear S0 HR hs
    obtain ⟨i, j, dk, rfl, rfl, hai, hij, hjb, hds, S1, HL⟩ := hrel
    go_wp2
    go_loopw [9] (fun vi wr => ∃ p : Nat, vi = .int .i64 p ∧ i ≤ p ∧ p ≤ j + 1 ∧ Hid (SW (.int .u32) w0 blk off dk wr) ∧ Hid (scanUp (fun x => !ltInt dk[a]! x) dk j p = scanUp (fun x => !ltInt dk[a]! x) dk j i))
      (fun vi _ => j + 1 - (intOf vi).toNat)
    case atStart => exact ⟨i, rfl, Nat.le_refl _, hij, S1, rfl⟩
    case round =>
      clear S1
      obtain ⟨p, rfl, hip, hpj, S2, HU⟩ := hrel
      by_cases hle : p ≤ j
      · obtain ⟨G, hG, hc, hf⟩ := row_facts S2.out R hds
        have hpl : p < d0.size := by omega
        go_wp2_with fail
        go_big_quiet (first | (go_at_call 80; refine Calls.quiet_of_same (less_u32 _ _ _)))
        go_wp2
        · have ht : (!ltInt (G a) (G p)) = true := by assumption
          go_roundw
          case rel => exact ⟨p + 1, by go_num, by omega, by omega, S2.out.drewN nq, (scanUp_go (fun x => !ltInt dk[a]! x) dk j p hle (by rw [← hG.out a, ← hG.out p]; exact ht)).symm.trans HU.out⟩
          case measure => simp [intOf]; omega
        · have ht : (!ltInt (G a) (G p)) = false := by assumption
          have HT : Hid (ltInt dk[a]! dk[p]! = true) := by rw [← hG.out a, ← hG.out p]; exact (show ltInt (G a) (G p) = true by simpa using ht)
          have HI2 : Hid (p = scanUp (fun x => !ltInt dk[a]! x) dk j i) := (scanUp_end (fun x => !ltInt dk[a]! x) dk j p (.inr (by rw [← hG.out a, ← hG.out p]; exact ht))).symm.trans HU.out
          have S3 : Hid (SW (.int .u32) w0 blk off dk (wr.drewN nq)) := S2.out.drewN nq
          clear hc hf hG S2 HU ht
          go_loopw [10] (fun vj wr => ∃ q : Nat, vj = .int .i64 q ∧ q ≤ j ∧ p ≤ q + 1 ∧ Hid (SW (.int .u32) w0 blk off dk wr) ∧ Hid (scanDown (fun x => ltInt dk[a]! x) dk p q = scanDown (fun x => ltInt dk[a]! x) dk p j))
            (fun vj _ => (intOf vj).toNat)
          case atStart => exact ⟨j, rfl, Nat.le_refl _, hpj, S3, rfl⟩
          case round =>
            clear S3
            obtain ⟨q, rfl, hqj, hpq, S4, HD⟩ := hrel
            by_cases hle2 : p ≤ q
            · obtain ⟨G, hG, hc, hf⟩ := row_facts S4.out R hds
              have hql : q < d0.size := by omega
              go_wp2_with fail
              go_big_quiet (first | (go_at_call 80; refine Calls.quiet_of_same (less_u32 _ _ _)))
              go_wp2
              · have ht : ltInt (G a) (G q) = true := by assumption
                go_roundw
                case rel => exact ⟨q - 1, by go_num, by omega, by omega, S4.out.drewN nq, (scanDown_go (fun x => ltInt dk[a]! x) dk p q hle2 (by omega) (by rw [← hG.out a, ← hG.out q]; exact ht)).symm.trans HD.out⟩
                case measure => simp [intOf]; omega
              · have ht : ltInt (G a) (G q) = false := by assumption
                have HJ2 : Hid (q = scanDown (fun x => ltInt dk[a]! x) dk p j) := (scanDown_end (fun x => ltInt dk[a]! x) dk p q (.inr (by rw [← hG.out a, ← hG.out q]; exact ht))).symm.trans HD.out
                have hne : p ≠ q := fun e => by
                  have h1 := HT.out
                  rw [e, ← hG.out a, ← hG.out q, ht] at h1
                  exact absurd h1 (by simp)
                have S5 : Hid (SW (.int .u32) w0 blk off dk (wr.drewN nq)) := S4.out.drewN nq
                clear hc hf hG S4 HD ht
                generalize wr.drewN nq = w5 at S5 ⊢
                have hlt : p < q := by omega
                obtain ⟨G, hG, hc, hf⟩ := row_facts S5.out R hds
                have hql : q < d0.size := by omega
                obtain ⟨u, hu⟩ := S5.out.c2 R hds p q (by omega) (by omega) (.int .u32 (G q))
                have S6 : Hid (SW (.int .u32) w0 blk off (swp dk p q) ((w5.setCell ⟨blk, off + p, none⟩ (.int .u32 (G q))).setCell ⟨blk, off + q, none⟩ (.int .u32 (G p))).drew) := by
                  have := S5.out.swapped R p q (by omega) (by omega)
                  rw [← hG.out p, ← hG.out q] at this
                  exact this
                clear S5
                go_wp2
                go_region
                all_goals go_wp2
                go_roundw
                case rel =>
                  refine ⟨p + 1, q - 1, swp dk p q, by go_num, by go_num, by omega, by omega, by omega, by rw [size_swp]; exact hds, S6, ?_⟩
                  rw [← HL.out, eq_go a i j p q dk HI2.out HJ2.out (by omega)]
                  exact rfl
                case measure => simp [intOf]; omega
            · have HJ2 : Hid (q = scanDown (fun x => ltInt dk[a]! x) dk p j) := (scanDown_end (fun x => ltInt dk[a]! x) dk p q (.inl hle2)).symm.trans HD.out
              go_wp2_with fail
              go_big_quiet (fail)
              have S5 : Hid (SW (.int .u32) w0 blk off dk (wr.drewN nq)) := S4.out.drewN nq
              clear S4 HD
              generalize wr.drewN nq = w5 at S5 ⊢
              have hlt : q < p := by omega
              have e := HL.out
              rw [eq_end a i j p q dk HI2.out HJ2.out hlt] at e
              go_wp2
              go_ret
              rw [HP.out, ← e]
              exact ⟨rfl, S5.out⟩
      · have HI2 : Hid (p = scanUp (fun x => !ltInt dk[a]! x) dk j i) := (scanUp_end (fun x => !ltInt dk[a]! x) dk j p (.inl hle)).symm.trans HU.out
        go_wp2_with fail
        go_big_quiet (fail)
        have S3 : Hid (SW (.int .u32) w0 blk off dk (wr.drewN nq)) := S2.out.drewN nq
        clear S2 HU
        generalize wr.drewN nq = w3 at S3 ⊢
        go_wp2_with fail
        go_loopw [10] (fun vj wr => vj = .int .i64 j ∧ Hid (SW (.int .u32) w0 blk off dk wr)) (fun vj _ => 0)
        case atStart => exact ⟨rfl, S3⟩
        case round =>
          clear S3
          obtain ⟨rfl, S4⟩ := hrel
          have HJ2 : Hid (j = scanDown (fun x => ltInt dk[a]! x) dk p j) := (scanDown_end (fun x => ltInt dk[a]! x) dk p j (.inl hle)).symm
          go_wp2_with fail
          go_big_quiet (fail)
          have S5 : Hid (SW (.int .u32) w0 blk off dk (wr.drewN nq)) := S4.out.drewN nq
          clear S4
          generalize wr.drewN nq = w5 at S5 ⊢
          have hlt : j < p := by omega
          have e := HL.out
          rw [eq_end a i j p j dk HI2.out HJ2.out hlt] at e
          go_wp2
          go_ret
          rw [HP.out, ← e]
          exact ⟨rfl, S5.out⟩
theorem scanS_go (d : Array Int) (b i k : Nat) (hk : k = i - 1) (h : i < b) (hl : (!ltInt d[i]! d[k]!) = true) : scanSorted ltInt d b i = scanSorted ltInt d b (i + 1) := by
  subst hk
  rw [scanSorted, if_pos (by rw [hl]; simp [h])]
theorem scanS_end (d : Array Int) (b i k : Nat) (hk : k = i - 1) (h : ¬ i < b ∨ (!ltInt d[i]! d[k]!) = false) : scanSorted ltInt d b i = i := by
  subst hk
  rw [scanSorted, if_neg (by rcases h with h | h <;> simp [h])]
theorem shD_stop (d : Array Int) (q k : Nat) (hk : q = k + 1) (h : (!ltInt d[q]! d[k]!) = true) : shiftDown ltInt q d = d := by
  subst hk
  rw [shiftDown, if_pos h]
theorem shD_go (d : Array Int) (q k : Nat) (hk : q = k + 1) (h : (!ltInt d[q]! d[k]!) = false) : shiftDown ltInt q d = shiftDown ltInt k (swp d q k) := by
  subst hk
  rw [shiftDown, if_neg (by rw [h]; simp)]
theorem shU_stop (d : Array Int) (b q k : Nat) (hk : k = q - 1) (hb : q < b) (h : (!ltInt d[q]! d[k]!) = true) : shiftUp ltInt b q d = d := by
  subst hk
  rw [shiftUp, if_pos hb, if_pos h]
theorem shU_go (d : Array Int) (b q k : Nat) (hk : k = q - 1) (hb : q < b) (h : (!ltInt d[q]! d[k]!) = false) : shiftUp ltInt b q d = shiftUp ltInt b (q + 1) (swp d q k) := by
  subst hk
  rw [shiftUp, if_pos hb, if_neg (by rw [h]; simp)]
theorem shU_end (d : Array Int) (b q : Nat) (hb : ¬ q < b) : shiftUp ltInt b q d = d := by rw [shiftUp, if_neg hb]
theorem part_true (a b s i p : Nat) (d : Array Int) (hp : p = scanSorted ltInt d b i) (hb : p = b) : partialIns ltInt a b (s + 1) i d = (d, true) := by
  subst hp
  unfold partialIns
  simp only [hb, if_true]
theorem part_false (a b s i p : Nat) (d : Array Int) (hp : p = scanSorted ltInt d b i) (hb : p ≠ b) (h : b - a < 50) : partialIns ltInt a b (s + 1) i d = (d, false) := by
  subst hp
  unfold partialIns
  simp only [if_neg hb, if_pos h]
theorem part_step (a b s i p pm : Nat) (d d2 d3 : Array Int) (hp : p = scanSorted ltInt d b i) (hpm : pm = p - 1) (hb : p ≠ b) (h : ¬ b - a < 50) (h2 : d2 = if p - a ≥ 2 then shiftDown ltInt pm (swp d p pm) else swp d p pm)
    (h3 : d3 = if b - p ≥ 2 then shiftUp ltInt b (p + 1) d2 else d2) : partialIns ltInt a b (s + 1) i d = partialIns ltInt a b s p d3 := by
  subst h3; subst h2; subst hpm; subst hp
  conv => lhs; unfold partialIns
  simp only [if_neg hb, if_neg h]
set_option maxHeartbeats 16000000 in
set_option maxRecDepth 100000 in
theorem partial_u32 (blk off cap a b : Nat) (d0 d : Array Int) (w0 w : World) (R : Row1 (.int .u32) w0 blk off d0) (hs : d.size = d0.size) (S : SW (.int .u32) w0 blk off d w) (hab : a < b) (hb : b ≤ d0.size) (hsz : d0.size < 4611686018427387904) :
    Calls Try.prog 79 #[.slice (some ⟨blk, off, none⟩) d0.size cap, .int .i64 a, .int .i64 b] w fun e w' =>
      e = .returned (.bool (partialInsertionSort ltInt d a b).2) ∧ SW (.int .u32) w0 blk off (partialInsertionSort ltInt d a b).1 w' ∧ (partialInsertionSort ltInt d a b).1.size = d0.size := by
  have S0 : Hid (SW (.int .u32) w0 blk off d w) := S
  clear S
  obtain ⟨Rr, hR⟩ : ∃ Rr, Rr = partialIns ltInt a b 5 (a + 1) d := ⟨_, rfl⟩
  have HP : Hid (partialInsertionSort ltInt d a b = Rr) := by rw [hR]; exact rfl
  have HR0 : Hid (Rr = partialIns ltInt a b 5 (a + 1) d) := hR
  clear hR
  go_enter Try.func79, Try.ntmps79
  go_wp2
  all_goals (try (exfalso; omega))
  go_loopw [7, 8, 9, 10] (fun v7 v8 v9 v10 wr => ∃ (i s : Nat) (dk : Array Int), v7 = .int .i64 i ∧ v8 = .int .i64 s ∧ s ≤ 5 ∧ a + 1 ≤ i ∧ i ≤ b ∧ dk.size = d0.size ∧ Hid (SW (.int .u32) w0 blk off dk wr) ∧ Hid (partialIns ltInt a b (5 - s) i dk = Rr))
    (fun v7 v8 v9 v10 _ => 5 - (intOf v8).toNat)
  case atStart => exact ⟨a + 1, 0, d, by go_num, rfl, by omega, by omega, by omega, hs, S0, HR0.out.symm⟩
  case round =>
    clear S0 HR0 hs
    obtain ⟨i, s, dk, rfl, rfl, hs5, hai, hib, hds, S1, HL⟩ := hrel
    by_cases hs4 : s < 5
    · have hs4z : (s : Int) < 5 := by omega
      go_wp2
      all_goals (try (exfalso; omega))
      go_loopw [7] (fun vi wr => ∃ p : Nat, vi = .int .i64 p ∧ i ≤ p ∧ p ≤ b ∧ Hid (SW (.int .u32) w0 blk off dk wr) ∧ Hid (scanSorted ltInt dk b p = scanSorted ltInt dk b i))
        (fun vi _ => b - (intOf vi).toNat)
      case atStart => exact ⟨i, rfl, Nat.le_refl _, hib, S1, rfl⟩
      case round =>
        clear S1
        obtain ⟨p, rfl, hip, hpb, S2, HU⟩ := hrel
        obtain ⟨pm, hpm⟩ : ∃ pm, pm = p - 1 := ⟨_, rfl⟩
        have ep : (p : Int) - 1 = (pm : Int) := by omega
        have hpn : p ≠ pm := by omega
        have hpml : pm < d0.size := by omega
        have HPM : Hid (pm = p - 1) := hpm
        by_cases hlt : p < b
        · clear hpm
          obtain ⟨G, hG, hc, hf⟩ := row_facts S2.out R hds
          have hpl : p < d0.size := by omega
          go_wp2_with fail
          go_big_quiet (first | (go_at_call 80; refine Calls.quiet_of_same (less_u32 _ _ _)))
          go_wp2
          · have ht : (!ltInt (G p) (G pm)) = true := by assumption
            go_roundw
            case rel => exact ⟨p + 1, by go_num, by omega, by omega, S2.out.drewN nq, (scanS_go dk b p pm HPM.out hlt (by rw [← hG.out p, ← hG.out pm]; exact ht)).symm.trans HU.out⟩
            case measure => simp [intOf]; omega
          · have h50 : b - a < 50 := by omega
            have ht : (!ltInt (G p) (G pm)) = false := by assumption
            have HI2 : Hid (p = scanSorted ltInt dk b i) := (scanS_end dk b p pm HPM.out (.inr (by rw [← hG.out p, ← hG.out pm]; exact ht))).symm.trans HU.out
            have S5 : Hid (SW (.int .u32) w0 blk off dk (wr.drewN nq)) := S2.out.drewN nq
            clear hc hf hG ht S2 HU
            generalize wr.drewN nq = w5 at S5 ⊢
            go_wp2
            go_ret
            have e := part_false a b (4 - s) i p dk HI2.out (by omega) h50
            have h := HL.out
            rw [show 5 - s = 4 - s + 1 from by omega, e] at h
            rw [HP.out, ← h]
            exact ⟨rfl, S5.out, hds⟩
          · have h50 : ¬ b - a < 50 := by omega
            have ht : (!ltInt (G p) (G pm)) = false := by assumption
            have HI2 : Hid (p = scanSorted ltInt dk b i) := (scanS_end dk b p pm HPM.out (.inr (by rw [← hG.out p, ← hG.out pm]; exact ht))).symm.trans HU.out
            have S5 : Hid (SW (.int .u32) w0 blk off dk (wr.drewN nq)) := S2.out.drewN nq
            clear hc hf hG ht S2 HU
            generalize wr.drewN nq = w5 at S5 ⊢
            have hdq := hds
            obtain ⟨G, hG, hc, hf⟩ := row_facts S5.out R hdq
            obtain ⟨u, hu⟩ := S5.out.c2 R hdq p pm (by omega) (by omega) (.int .u32 (G pm))
            have S6 : Hid (SW (.int .u32) w0 blk off (swp dk p pm) ((w5.setCell ⟨blk, off + p, none⟩ (.int .u32 (G pm))).setCell ⟨blk, off + pm, none⟩ (.int .u32 (G p))).drew) := by
              have := S5.out.swapped R p pm (by omega) (by omega)
              rw [← hG.out p, ← hG.out pm] at this
              exact this
            clear S5
            go_wp2
            all_goals (try (exfalso; omega))
            go_region
            all_goals go_wp2
            · have ha2 : 2 ≤ p - a := by omega
              clear hc hf hG hu
              generalize ((w5.setCell ⟨blk, off + p, none⟩ (.int .u32 (G pm))).setCell ⟨blk, off + pm, none⟩ (.int .u32 (G p))).drew = w6 at S6 ⊢
              obtain ⟨d1, hd1⟩ : ∃ d1, d1 = swp dk p pm := ⟨_, rfl⟩
              have hdq1 : d1.size = d0.size := by rw [hd1, size_swp]; exact hds
              rw [← hd1] at S6
              have HD1 : Hid (d1 = swp dk p pm) := hd1
              clear hd1 hdq
              go_loopw [9] (fun vq wr => ∃ (q : Nat) (dq : Array Int), vq = .int .i64 q ∧ q ≤ pm ∧ dq.size = d0.size ∧ Hid (SW (.int .u32) w0 blk off dq wr) ∧ Hid (shiftDown ltInt q dq = shiftDown ltInt pm d1))
                (fun vq _ => (intOf vq).toNat)
              case atStart => exact ⟨pm, d1, rfl, Nat.le_refl _, hdq1, S6, rfl⟩
              case round =>
                clear S6 hdq1
                obtain ⟨q, dq, rfl, hqp, hdq, S7, HQ⟩ := hrel
                by_cases hq1 : 1 ≤ q
                · obtain ⟨qm, hqm⟩ : ∃ qm, q = qm + 1 := ⟨q - 1, by omega⟩
                  have eq1 : (q : Int) - 1 = (qm : Int) := by omega
                  have hql : q < d0.size := by omega
                  have hqml : qm < d0.size := by omega
                  have hqn : q ≠ qm := by omega
                  have hq1z : (1 : Int) ≤ (q : Int) := by omega
                  have HQM : Hid (q = qm + 1) := hqm
                  clear hqm
                  obtain ⟨G, hG, hc, hf⟩ := row_facts S7.out R hdq
                  go_wp2_with fail
                  go_big_quiet (first | (go_at_call 80; refine Calls.quiet_of_same (less_u32 _ _ _)))
                  go_wp2
                  · have ht : (!ltInt (G q) (G qm)) = true := by assumption
                    have HDQ : Hid (dq = if p - a ≥ 2 then shiftDown ltInt pm (swp dk p pm) else swp dk p pm) := by
                      show dq = _
                      rw [if_pos ha2, ← HD1.out, ← HQ.out, shD_stop dq q qm HQM.out (by rw [← hG.out q, ← hG.out qm]; exact ht)]
                    have S5 : Hid (SW (.int .u32) w0 blk off dq (wr.drewN nq)) := S7.out.drewN nq
                    clear hc hf hG ht S7 HQ
                    generalize wr.drewN nq = w7 at S5 ⊢
                    have hb2 : 2 ≤ b - p := by omega
                    obtain ⟨d2, hd2⟩ : ∃ d2, d2 = dq := ⟨_, rfl⟩
                    rw [← hd2] at S5 HDQ
                    have hdq2 : d2.size = d0.size := by rw [hd2]; exact hdq
                    have HD2 : Hid (d2 = if p - a ≥ 2 then shiftDown ltInt pm (swp dk p pm) else swp dk p pm) := HDQ
                    clear hd2 HDQ
                    go_loopw [10] (fun vr wr => ∃ (r : Nat) (dr : Array Int), vr = .int .i64 r ∧ p + 1 ≤ r ∧ r ≤ b ∧ dr.size = d0.size ∧ Hid (SW (.int .u32) w0 blk off dr wr) ∧ Hid (shiftUp ltInt b r dr = shiftUp ltInt b (p + 1) d2))
                      (fun vr _ => b - (intOf vr).toNat)
                    case atStart => exact ⟨p + 1, d2, by go_num, Nat.le_refl _, by omega, hdq2, S5, rfl⟩
                    case round =>
                      clear S5 hdq2
                      obtain ⟨r, dr, rfl, hpr, hrb, hdr, S7, HR⟩ := hrel
                      by_cases hrlt : r < b
                      · obtain ⟨G, hG, hc, hf⟩ := row_facts S7.out R hdr
                        obtain ⟨rm, hrm⟩ : ∃ rm, rm = r - 1 := ⟨_, rfl⟩
                        have er : (r : Int) - 1 = (rm : Int) := by omega
                        have hrl : r < d0.size := by omega
                        have hrml : rm < d0.size := by omega
                        have hrn : r ≠ rm := by omega
                        have HRM : Hid (rm = r - 1) := hrm
                        clear hrm
                        go_wp2_with fail
                        go_big_quiet (first | (go_at_call 80; refine Calls.quiet_of_same (less_u32 _ _ _)))
                        go_wp2
                        · have ht : (!ltInt (G r) (G rm)) = true := by assumption
                          have S5 : Hid (SW (.int .u32) w0 blk off dr (wr.drewN nq)) := S7.out.drewN nq
                          have hdz := hdr
                          have HZ : Hid (dr = if b - p ≥ 2 then shiftUp ltInt b (p + 1) d2 else d2) := by
                            show dr = _
                            rw [if_pos hb2, ← HR.out, shU_stop dr b r rm HRM.out hrlt (by rw [← hG.out r, ← hG.out rm]; exact ht)]
                          have HD3 : Hid (dr = if b - p ≥ 2 then shiftUp ltInt b (p + 1) d2 else d2) := HZ
                          go_roundw
                          case rel =>
                            refine ⟨p, s + 1, dr, rfl, by go_num, by omega, by omega, by omega, hdz, S5, ?_⟩
                            have e := part_step a b (4 - s) i p pm dk d2 dr HI2.out HPM.out (by omega) h50 HD2.out HD3.out
                            have h := HL.out
                            rw [show 5 - s = 4 - s + 1 from by omega, e] at h
                            show _ = _
                            rw [← h, show 5 - (s + 1) = 4 - s from by omega]
                          case measure => simp [intOf]; omega
                        · have ht : (!ltInt (G r) (G rm)) = false := by assumption
                          have HT : Hid (shiftUp ltInt b r dr = shiftUp ltInt b (r + 1) (swp dr r rm)) := shU_go dr b r rm HRM.out hrlt (by rw [← hG.out r, ← hG.out rm]; exact ht)
                          have S5 : Hid (SW (.int .u32) w0 blk off dr (wr.drewN nq)) := S7.out.drewN nq
                          clear hc hf hG ht S7
                          generalize wr.drewN nq = w7 at S5 ⊢
                          have hdq := hdr
                          obtain ⟨G, hG, hc, hf⟩ := row_facts S5.out R hdq
                          obtain ⟨u, hu⟩ := S5.out.c2 R hdq r rm (by omega) (by omega) (.int .u32 (G rm))
                          have S8 : Hid (SW (.int .u32) w0 blk off (swp dr r rm) ((w7.setCell ⟨blk, off + r, none⟩ (.int .u32 (G rm))).setCell ⟨blk, off + rm, none⟩ (.int .u32 (G r))).drew) := by
                            have := S5.out.swapped R r rm (by omega) (by omega)
                            rw [← hG.out r, ← hG.out rm] at this
                            exact this
                          clear S5
                          go_wp2
                          all_goals (try (exfalso; omega))
                          go_region
                          all_goals go_wp2
                          go_roundw
                          case rel => exact ⟨r + 1, swp dr r rm, by go_num, by omega, by omega, by rw [size_swp]; exact hdr, S8, HT.out.symm.trans HR.out⟩
                          case measure => simp [intOf]; omega
                      · have HZ : Hid (dr = if b - p ≥ 2 then shiftUp ltInt b (p + 1) d2 else d2) := by
                          show dr = _
                          rw [if_pos hb2, ← HR.out, shU_end dr b r hrlt]
                        have S5 := S7
                        have hdz := hdr
                        go_wp2
                        all_goals (try (exfalso; omega))
                        have HD3 : Hid (dr = if b - p ≥ 2 then shiftUp ltInt b (p + 1) d2 else d2) := HZ
                        go_roundw
                        case rel =>
                          refine ⟨p, s + 1, dr, rfl, by go_num, by omega, by omega, by omega, hdz, S5, ?_⟩
                          have e := part_step a b (4 - s) i p pm dk d2 dr HI2.out HPM.out (by omega) h50 HD2.out HD3.out
                          have h := HL.out
                          rw [show 5 - s = 4 - s + 1 from by omega, e] at h
                          show _ = _
                          rw [← h, show 5 - (s + 1) = 4 - s from by omega]
                        case measure => simp [intOf]; omega
                  · have ht : (!ltInt (G q) (G qm)) = true := by assumption
                    have HDQ : Hid (dq = if p - a ≥ 2 then shiftDown ltInt pm (swp dk p pm) else swp dk p pm) := by
                      show dq = _
                      rw [if_pos ha2, ← HD1.out, ← HQ.out, shD_stop dq q qm HQM.out (by rw [← hG.out q, ← hG.out qm]; exact ht)]
                    have S5 : Hid (SW (.int .u32) w0 blk off dq (wr.drewN nq)) := S7.out.drewN nq
                    clear hc hf hG ht S7 HQ
                    generalize wr.drewN nq = w7 at S5 ⊢
                    have hb2 : ¬ 2 ≤ b - p := by omega
                    obtain ⟨d2, hd2⟩ : ∃ d2, d2 = dq := ⟨_, rfl⟩
                    rw [← hd2] at S5 HDQ
                    have hdq2 : d2.size = d0.size := by rw [hd2]; exact hdq
                    have HD2 : Hid (d2 = if p - a ≥ 2 then shiftDown ltInt pm (swp dk p pm) else swp dk p pm) := HDQ
                    clear hd2 HDQ
                    have HZ : Hid (d2 = if b - p ≥ 2 then shiftUp ltInt b (p + 1) d2 else d2) := by
                      show d2 = _
                      rw [if_neg (by omega)]
                    have hdz := hdq2
                    have HD3 : Hid (d2 = if b - p ≥ 2 then shiftUp ltInt b (p + 1) d2 else d2) := HZ
                    go_roundw
                    case rel =>
                      refine ⟨p, s + 1, d2, rfl, by go_num, by omega, by omega, by omega, hdz, S5, ?_⟩
                      have e := part_step a b (4 - s) i p pm dk d2 d2 HI2.out HPM.out (by omega) h50 HD2.out HD3.out
                      have h := HL.out
                      rw [show 5 - s = 4 - s + 1 from by omega, e] at h
                      show _ = _
                      rw [← h, show 5 - (s + 1) = 4 - s from by omega]
                    case measure => simp [intOf]; omega
                  · have ht : (!ltInt (G q) (G qm)) = false := by assumption
                    have HT : Hid (shiftDown ltInt q dq = shiftDown ltInt qm (swp dq q qm)) := shD_go dq q qm HQM.out (by rw [← hG.out q, ← hG.out qm]; exact ht)
                    have S5 : Hid (SW (.int .u32) w0 blk off dq (wr.drewN nq)) := S7.out.drewN nq
                    clear hc hf hG ht S7
                    generalize wr.drewN nq = w7 at S5 ⊢
                    obtain ⟨G, hG, hc, hf⟩ := row_facts S5.out R hdq
                    obtain ⟨u, hu⟩ := S5.out.c2 R hdq q qm (by omega) (by omega) (.int .u32 (G qm))
                    have S8 : Hid (SW (.int .u32) w0 blk off (swp dq q qm) ((w7.setCell ⟨blk, off + q, none⟩ (.int .u32 (G qm))).setCell ⟨blk, off + qm, none⟩ (.int .u32 (G q))).drew) := by
                      have := S5.out.swapped R q qm (by omega) (by omega)
                      rw [← hG.out q, ← hG.out qm] at this
                      exact this
                    clear S5
                    go_wp2
                    all_goals (try (exfalso; omega))
                    go_region
                    all_goals go_wp2
                    go_roundw
                    case rel => exact ⟨qm, swp dq q qm, rfl, by omega, by rw [size_swp]; exact hdq, S8, HT.out.symm.trans HQ.out⟩
                    case measure => simp [intOf]; have := HQM.out; omega
                · have HDQ : Hid (dq = if p - a ≥ 2 then shiftDown ltInt pm (swp dk p pm) else swp dk p pm) := by
                    show dq = _
                    rw [if_pos ha2, ← HD1.out, ← HQ.out, show q = 0 from by omega]
                    exact rfl
                  have S5 := S7
                  clear S7 HQ
                  go_wp2
                  all_goals (try (exfalso; omega))
                  · have hb2 : 2 ≤ b - p := by omega
                    obtain ⟨d2, hd2⟩ : ∃ d2, d2 = dq := ⟨_, rfl⟩
                    rw [← hd2] at S5 HDQ
                    have hdq2 : d2.size = d0.size := by rw [hd2]; exact hdq
                    have HD2 : Hid (d2 = if p - a ≥ 2 then shiftDown ltInt pm (swp dk p pm) else swp dk p pm) := HDQ
                    clear hd2 HDQ
                    go_loopw [10] (fun vr wr => ∃ (r : Nat) (dr : Array Int), vr = .int .i64 r ∧ p + 1 ≤ r ∧ r ≤ b ∧ dr.size = d0.size ∧ Hid (SW (.int .u32) w0 blk off dr wr) ∧ Hid (shiftUp ltInt b r dr = shiftUp ltInt b (p + 1) d2))
                      (fun vr _ => b - (intOf vr).toNat)
                    case atStart => exact ⟨p + 1, d2, by go_num, Nat.le_refl _, by omega, hdq2, S5, rfl⟩
                    case round =>
                      clear S5 hdq2
                      obtain ⟨r, dr, rfl, hpr, hrb, hdr, S7, HR⟩ := hrel
                      by_cases hrlt : r < b
                      · obtain ⟨G, hG, hc, hf⟩ := row_facts S7.out R hdr
                        obtain ⟨rm, hrm⟩ : ∃ rm, rm = r - 1 := ⟨_, rfl⟩
                        have er : (r : Int) - 1 = (rm : Int) := by omega
                        have hrl : r < d0.size := by omega
                        have hrml : rm < d0.size := by omega
                        have hrn : r ≠ rm := by omega
                        have HRM : Hid (rm = r - 1) := hrm
                        clear hrm
                        go_wp2_with fail
                        go_big_quiet (first | (go_at_call 80; refine Calls.quiet_of_same (less_u32 _ _ _)))
                        go_wp2
                        · have ht : (!ltInt (G r) (G rm)) = true := by assumption
                          have S5 : Hid (SW (.int .u32) w0 blk off dr (wr.drewN nq)) := S7.out.drewN nq
                          have hdz := hdr
                          have HZ : Hid (dr = if b - p ≥ 2 then shiftUp ltInt b (p + 1) d2 else d2) := by
                            show dr = _
                            rw [if_pos hb2, ← HR.out, shU_stop dr b r rm HRM.out hrlt (by rw [← hG.out r, ← hG.out rm]; exact ht)]
                          have HD3 : Hid (dr = if b - p ≥ 2 then shiftUp ltInt b (p + 1) d2 else d2) := HZ
                          go_roundw
                          case rel =>
                            refine ⟨p, s + 1, dr, rfl, by go_num, by omega, by omega, by omega, hdz, S5, ?_⟩
                            have e := part_step a b (4 - s) i p pm dk d2 dr HI2.out HPM.out (by omega) h50 HD2.out HD3.out
                            have h := HL.out
                            rw [show 5 - s = 4 - s + 1 from by omega, e] at h
                            show _ = _
                            rw [← h, show 5 - (s + 1) = 4 - s from by omega]
                          case measure => simp [intOf]; omega
                        · have ht : (!ltInt (G r) (G rm)) = false := by assumption
                          have HT : Hid (shiftUp ltInt b r dr = shiftUp ltInt b (r + 1) (swp dr r rm)) := shU_go dr b r rm HRM.out hrlt (by rw [← hG.out r, ← hG.out rm]; exact ht)
                          have S5 : Hid (SW (.int .u32) w0 blk off dr (wr.drewN nq)) := S7.out.drewN nq
                          clear hc hf hG ht S7
                          generalize wr.drewN nq = w7 at S5 ⊢
                          have hdq := hdr
                          obtain ⟨G, hG, hc, hf⟩ := row_facts S5.out R hdq
                          obtain ⟨u, hu⟩ := S5.out.c2 R hdq r rm (by omega) (by omega) (.int .u32 (G rm))
                          have S8 : Hid (SW (.int .u32) w0 blk off (swp dr r rm) ((w7.setCell ⟨blk, off + r, none⟩ (.int .u32 (G rm))).setCell ⟨blk, off + rm, none⟩ (.int .u32 (G r))).drew) := by
                            have := S5.out.swapped R r rm (by omega) (by omega)
                            rw [← hG.out r, ← hG.out rm] at this
                            exact this
                          clear S5
                          go_wp2
                          all_goals (try (exfalso; omega))
                          go_region
                          all_goals go_wp2
                          go_roundw
                          case rel => exact ⟨r + 1, swp dr r rm, by go_num, by omega, by omega, by rw [size_swp]; exact hdr, S8, HT.out.symm.trans HR.out⟩
                          case measure => simp [intOf]; omega
                      · have HZ : Hid (dr = if b - p ≥ 2 then shiftUp ltInt b (p + 1) d2 else d2) := by
                          show dr = _
                          rw [if_pos hb2, ← HR.out, shU_end dr b r hrlt]
                        have S5 := S7
                        have hdz := hdr
                        go_wp2
                        all_goals (try (exfalso; omega))
                        have HD3 : Hid (dr = if b - p ≥ 2 then shiftUp ltInt b (p + 1) d2 else d2) := HZ
                        go_roundw
                        case rel =>
                          refine ⟨p, s + 1, dr, rfl, by go_num, by omega, by omega, by omega, hdz, S5, ?_⟩
                          have e := part_step a b (4 - s) i p pm dk d2 dr HI2.out HPM.out (by omega) h50 HD2.out HD3.out
                          have h := HL.out
                          rw [show 5 - s = 4 - s + 1 from by omega, e] at h
                          show _ = _
                          rw [← h, show 5 - (s + 1) = 4 - s from by omega]
                        case measure => simp [intOf]; omega
                  · have hb2 : ¬ 2 ≤ b - p := by omega
                    obtain ⟨d2, hd2⟩ : ∃ d2, d2 = dq := ⟨_, rfl⟩
                    rw [← hd2] at S5 HDQ
                    have hdq2 : d2.size = d0.size := by rw [hd2]; exact hdq
                    have HD2 : Hid (d2 = if p - a ≥ 2 then shiftDown ltInt pm (swp dk p pm) else swp dk p pm) := HDQ
                    clear hd2 HDQ
                    have HZ : Hid (d2 = if b - p ≥ 2 then shiftUp ltInt b (p + 1) d2 else d2) := by
                      show d2 = _
                      rw [if_neg (by omega)]
                    have hdz := hdq2
                    have HD3 : Hid (d2 = if b - p ≥ 2 then shiftUp ltInt b (p + 1) d2 else d2) := HZ
                    go_roundw
                    case rel =>
                      refine ⟨p, s + 1, d2, rfl, by go_num, by omega, by omega, by omega, hdz, S5, ?_⟩
                      have e := part_step a b (4 - s) i p pm dk d2 d2 HI2.out HPM.out (by omega) h50 HD2.out HD3.out
                      have h := HL.out
                      rw [show 5 - s = 4 - s + 1 from by omega, e] at h
                      show _ = _
                      rw [← h, show 5 - (s + 1) = 4 - s from by omega]
                    case measure => simp [intOf]; omega
            · clear hc hf hG hu
              generalize ((w5.setCell ⟨blk, off + p, none⟩ (.int .u32 (G pm))).setCell ⟨blk, off + pm, none⟩ (.int .u32 (G p))).drew = w6 at S6 ⊢
              obtain ⟨d1, hd1⟩ : ∃ d1, d1 = swp dk p pm := ⟨_, rfl⟩
              have hdq1 : d1.size = d0.size := by rw [hd1, size_swp]; exact hds
              rw [← hd1] at S6
              have HD1 : Hid (d1 = swp dk p pm) := hd1
              clear hd1 hdq
              have ha2 : ¬ 2 ≤ p - a := by omega
              have HDQ : Hid (d1 = if p - a ≥ 2 then shiftDown ltInt pm (swp dk p pm) else swp dk p pm) := by
                show d1 = _
                rw [if_neg (by omega)]
                exact HD1.out
              have S5 := S6
              have hdq := hdq1
              clear S6 hdq1
              have hb2 : 2 ≤ b - p := by omega
              obtain ⟨d2, hd2⟩ : ∃ d2, d2 = d1 := ⟨_, rfl⟩
              rw [← hd2] at S5 HDQ
              have hdq2 : d2.size = d0.size := by rw [hd2]; exact hdq
              have HD2 : Hid (d2 = if p - a ≥ 2 then shiftDown ltInt pm (swp dk p pm) else swp dk p pm) := HDQ
              clear hd2 HDQ
              go_loopw [10] (fun vr wr => ∃ (r : Nat) (dr : Array Int), vr = .int .i64 r ∧ p + 1 ≤ r ∧ r ≤ b ∧ dr.size = d0.size ∧ Hid (SW (.int .u32) w0 blk off dr wr) ∧ Hid (shiftUp ltInt b r dr = shiftUp ltInt b (p + 1) d2))
                (fun vr _ => b - (intOf vr).toNat)
              case atStart => exact ⟨p + 1, d2, by go_num, Nat.le_refl _, by omega, hdq2, S5, rfl⟩
              case round =>
                clear S5 hdq2
                obtain ⟨r, dr, rfl, hpr, hrb, hdr, S7, HR⟩ := hrel
                by_cases hrlt : r < b
                · obtain ⟨G, hG, hc, hf⟩ := row_facts S7.out R hdr
                  obtain ⟨rm, hrm⟩ : ∃ rm, rm = r - 1 := ⟨_, rfl⟩
                  have er : (r : Int) - 1 = (rm : Int) := by omega
                  have hrl : r < d0.size := by omega
                  have hrml : rm < d0.size := by omega
                  have hrn : r ≠ rm := by omega
                  have HRM : Hid (rm = r - 1) := hrm
                  clear hrm
                  go_wp2_with fail
                  go_big_quiet (first | (go_at_call 80; refine Calls.quiet_of_same (less_u32 _ _ _)))
                  go_wp2
                  · have ht : (!ltInt (G r) (G rm)) = true := by assumption
                    have S5 : Hid (SW (.int .u32) w0 blk off dr (wr.drewN nq)) := S7.out.drewN nq
                    have hdz := hdr
                    have HZ : Hid (dr = if b - p ≥ 2 then shiftUp ltInt b (p + 1) d2 else d2) := by
                      show dr = _
                      rw [if_pos hb2, ← HR.out, shU_stop dr b r rm HRM.out hrlt (by rw [← hG.out r, ← hG.out rm]; exact ht)]
                    have HD3 : Hid (dr = if b - p ≥ 2 then shiftUp ltInt b (p + 1) d2 else d2) := HZ
                    go_roundw
                    case rel =>
                      refine ⟨p, s + 1, dr, rfl, by go_num, by omega, by omega, by omega, hdz, S5, ?_⟩
                      have e := part_step a b (4 - s) i p pm dk d2 dr HI2.out HPM.out (by omega) h50 HD2.out HD3.out
                      have h := HL.out
                      rw [show 5 - s = 4 - s + 1 from by omega, e] at h
                      show _ = _
                      rw [← h, show 5 - (s + 1) = 4 - s from by omega]
                    case measure => simp [intOf]; omega
                  · have ht : (!ltInt (G r) (G rm)) = false := by assumption
                    have HT : Hid (shiftUp ltInt b r dr = shiftUp ltInt b (r + 1) (swp dr r rm)) := shU_go dr b r rm HRM.out hrlt (by rw [← hG.out r, ← hG.out rm]; exact ht)
                    have S5 : Hid (SW (.int .u32) w0 blk off dr (wr.drewN nq)) := S7.out.drewN nq
                    clear hc hf hG ht S7
                    generalize wr.drewN nq = w7 at S5 ⊢
                    have hdq := hdr
                    obtain ⟨G, hG, hc, hf⟩ := row_facts S5.out R hdq
                    obtain ⟨u, hu⟩ := S5.out.c2 R hdq r rm (by omega) (by omega) (.int .u32 (G rm))
                    have S8 : Hid (SW (.int .u32) w0 blk off (swp dr r rm) ((w7.setCell ⟨blk, off + r, none⟩ (.int .u32 (G rm))).setCell ⟨blk, off + rm, none⟩ (.int .u32 (G r))).drew) := by
                      have := S5.out.swapped R r rm (by omega) (by omega)
                      rw [← hG.out r, ← hG.out rm] at this
                      exact this
                    clear S5
                    go_wp2
                    all_goals (try (exfalso; omega))
                    go_region
                    all_goals go_wp2
                    go_roundw
                    case rel => exact ⟨r + 1, swp dr r rm, by go_num, by omega, by omega, by rw [size_swp]; exact hdr, S8, HT.out.symm.trans HR.out⟩
                    case measure => simp [intOf]; omega
                · have HZ : Hid (dr = if b - p ≥ 2 then shiftUp ltInt b (p + 1) d2 else d2) := by
                    show dr = _
                    rw [if_pos hb2, ← HR.out, shU_end dr b r hrlt]
                  have S5 := S7
                  have hdz := hdr
                  go_wp2
                  all_goals (try (exfalso; omega))
                  have HD3 : Hid (dr = if b - p ≥ 2 then shiftUp ltInt b (p + 1) d2 else d2) := HZ
                  go_roundw
                  case rel =>
                    refine ⟨p, s + 1, dr, rfl, by go_num, by omega, by omega, by omega, hdz, S5, ?_⟩
                    have e := part_step a b (4 - s) i p pm dk d2 dr HI2.out HPM.out (by omega) h50 HD2.out HD3.out
                    have h := HL.out
                    rw [show 5 - s = 4 - s + 1 from by omega, e] at h
                    show _ = _
                    rw [← h, show 5 - (s + 1) = 4 - s from by omega]
                  case measure => simp [intOf]; omega
        · have HI2 : Hid (p = scanSorted ltInt dk b i) := (scanS_end dk b p pm hpm (.inl hlt)).symm.trans HU.out
          have hpe : p = b := by omega
          clear hpm
          go_wp2_with fail
          go_big_quiet (fail)
          have S5 : Hid (SW (.int .u32) w0 blk off dk (wr.drewN nq)) := S2.out.drewN nq
          clear S2 HU
          generalize wr.drewN nq = w5 at S5 ⊢
          have hpez : (p : Int) = (b : Int) := by omega
          go_wp2
          all_goals (try (exfalso; omega))
          go_ret
          have e := part_true a b (4 - s) i p dk HI2.out hpe
          have h := HL.out
          rw [show 5 - s = 4 - s + 1 from by omega, e] at h
          rw [HP.out, ← h]
          exact ⟨rfl, S5.out, hds⟩
    · have hs4z : decide ((s : Int) < 5) = false := decide_eq_false (by omega)
      go_wp2
      all_goals (try (exfalso; omega))
      go_ret
      have h := HL.out
      rw [show 5 - s = 0 from by omega] at h
      rw [HP.out, ← h]
      exact ⟨rfl, S1.out, hds⟩
theorem cnt_drewN {w0 W : World} {blk off c s : Nat} {dk : Array Int} (h : Cnt1 (.int .u32) w0 blk off dk c s W) (n : Nat) : Cnt1 (.int .u32) w0 blk off dk c s (W.drewN n) := by
  have := h.grown n #[]
  rwa [grow_empty] at this
set_option maxHeartbeats 4000000 in
set_option maxRecDepth 100000 in
theorem order2_u32 (blk off cap a b c s p q t : Nat) (d0 dk : Array Int) (w0 w : World) (R : Row1 (.int .u32) w0 blk off d0) (hs : dk.size = d0.size) (C : Cnt1 (.int .u32) w0 blk off dk c s w) (ha : a < d0.size) (hb : b < d0.size) (hs9 : s < 1000) (hsz : d0.size < 4611686018427387904)
    (hr : order2 ltInt dk a b s = (p, q, t)) :
    Calls Try.prog 96 #[.slice (some ⟨blk, off, none⟩) d0.size cap, .int .i64 a, .int .i64 b, .pointer (some ⟨c, 0, none⟩)] w fun e w' => e = .returned (.tuple #[.int .i64 p, .int .i64 q]) ∧ Cnt1 (.int .u32) w0 blk off dk c t w' := by
  obtain ⟨G, hG, hc, hf⟩ := row_facts C.1 R hs
  have hcc := C.2.1
  have hcf := C.2.2.1
  have C0 : Hid (Cnt1 (.int .u32) w0 blk off dk c s w) := C
  have HR : Hid (order2 ltInt dk a b s = (p, q, t)) := hr
  clear C hr
  go_enter Try.func96, Try.ntmps96
  go_wp2_with fail
  go_big_quiet (first | (go_at_call 80; refine Calls.quiet_of_same (less_u32 _ _ _)))
  go_wp2
  · have ht : ltInt (G b) (G a) = true := by assumption
    have e := HR.out
    unfold order2 at e
    rw [← hG.out b, ← hG.out a, if_pos ht] at e
    obtain ⟨rfl, e2⟩ := Prod.mk.inj e
    obtain ⟨rfl, rfl⟩ := Prod.mk.inj e2
    go_ret2
    refine ⟨rfl, ?_⟩
    have := (cnt_drewN C0.out nq).bump (s + 1)
    simpa using this
  · have ht : ltInt (G b) (G a) = false := by assumption
    have e := HR.out
    unfold order2 at e
    rw [← hG.out b, ← hG.out a, if_neg (by rw [ht]; simp)] at e
    obtain ⟨rfl, e2⟩ := Prod.mk.inj e
    obtain ⟨rfl, rfl⟩ := Prod.mk.inj e2
    go_ret2
    exact ⟨rfl, cnt_drewN C0.out nq⟩
theorem order2_in (dk : Array Int) (a b s p q t : Nat) (hr : order2 ltInt dk a b s = (p, q, t)) : ((p = a ∧ q = b) ∨ (p = b ∧ q = a)) ∧ t ≤ s + 1 := by
  have h1 := order2_mem ltInt dk a b s
  have h2 := order2_count (lt := ltInt) dk a b s
  rw [hr] at h1 h2
  exact ⟨h1, h2⟩
set_option maxHeartbeats 4000000 in
set_option maxRecDepth 100000 in
theorem median_u32 (blk off cap a b e0 c s m t : Nat) (d0 dk : Array Int) (w0 w : World) (R : Row1 (.int .u32) w0 blk off d0) (hs : dk.size = d0.size) (C : Cnt1 (.int .u32) w0 blk off dk c s w) (ha : a < d0.size) (hb : b < d0.size) (he : e0 < d0.size) (hs9 : s < 900) (hsz : d0.size < 4611686018427387904)
    (hr : median ltInt dk a b e0 s = (m, t)) :
    Calls Try.prog 93 #[.slice (some ⟨blk, off, none⟩) d0.size cap, .int .i64 a, .int .i64 b, .int .i64 e0, .pointer (some ⟨c, 0, none⟩)] w fun e w' => e = .returned (.int .i64 m) ∧ Cnt1 (.int .u32) w0 blk off dk c t w' := by
  obtain ⟨⟨p1, q1, s1⟩, h1⟩ : ∃ r, order2 ltInt dk a b s = r := ⟨_, rfl⟩
  obtain ⟨⟨p2, q2, s2⟩, h2⟩ : ∃ r, order2 ltInt dk q1 e0 s1 = r := ⟨_, rfl⟩
  obtain ⟨⟨p3, q3, s3⟩, h3⟩ : ∃ r, order2 ltInt dk p1 p2 s2 = r := ⟨_, rfl⟩
  have hm : m = q3 ∧ t = s3 := by
    unfold median at hr
    rw [h1] at hr
    simp only [] at hr
    rw [h2] at hr
    simp only [] at hr
    rw [h3] at hr
    exact ⟨(Prod.mk.inj hr).1.symm, (Prod.mk.inj hr).2.symm⟩
  obtain ⟨rfl, rfl⟩ := hm
  clear hr
  obtain ⟨i1, c1⟩ := order2_in dk a b s p1 q1 s1 h1
  obtain ⟨i2, c2⟩ := order2_in dk q1 e0 s1 p2 q2 s2 h2
  have hp1 : p1 < d0.size := by omega
  have hq1 : q1 < d0.size := by omega
  have hp2 : p2 < d0.size := by omega
  have HK1 := Hid.mk' (order2_u32 blk off cap a b c s p1 q1 s1 d0 dk w0 w R hs C ha hb (by omega) hsz h1)
  have HK2 := Hid.mk' (fun w1 C1 => order2_u32 blk off cap q1 e0 c s1 p2 q2 s2 d0 dk w0 w1 R hs C1 hq1 he (by omega) hsz h2)
  have HK3 := Hid.mk' (fun w1 C1 => order2_u32 blk off cap p1 p2 c s2 p3 m t d0 dk w0 w1 R hs C1 hp1 hp2 (by omega) hsz h3)
  clear C i1 i2
  go_enter Try.func93, Try.ntmps93
  go_wp2_with fail
  refine HK1.out.mono ?_
  rintro e w1 ⟨rfl, g1⟩
  have C1 := Hid.mk' g1
  clear g1
  go_wp2_with fail
  refine (HK2.out _ C1.out).mono ?_
  rintro e w2 ⟨rfl, g1⟩
  have C2 := Hid.mk' g1
  clear g1
  go_wp2_with fail
  refine (HK3.out _ C2.out).mono ?_
  rintro e w3 ⟨rfl, g1⟩
  have C3 := Hid.mk' g1
  clear g1
  go_wp2
  go_ret
  exact ⟨rfl, C3.out⟩
set_option maxHeartbeats 4000000 in
set_option maxRecDepth 100000 in
theorem medAdj_u32 (blk off cap a c s m t : Nat) (d0 dk : Array Int) (w0 w : World) (R : Row1 (.int .u32) w0 blk off d0) (hs : dk.size = d0.size) (C : Cnt1 (.int .u32) w0 blk off dk c s w) (ha : 1 ≤ a) (hb : a + 1 < d0.size) (hs9 : s < 900) (hsz : d0.size < 4611686018427387904)
    (hr : medianAdjacent ltInt dk a s = (m, t)) :
    Calls Try.prog 92 #[.slice (some ⟨blk, off, none⟩) d0.size cap, .int .i64 a, .pointer (some ⟨c, 0, none⟩)] w fun e w' => e = .returned (.int .i64 m) ∧ Cnt1 (.int .u32) w0 blk off dk c t w' := by
  obtain ⟨am, ham⟩ : ∃ am, am = a - 1 := ⟨_, rfl⟩
  obtain ⟨ap, hap⟩ : ∃ ap, ap = a + 1 := ⟨_, rfl⟩
  have e1 : (a : Int) - 1 = (am : Int) := by omega
  have e2 : (a : Int) + 1 = (ap : Int) := by omega
  have HK := Hid.mk' (median_u32 blk off cap am a ap c s m t d0 dk w0 w R hs C (by omega) (by omega) (by omega) hs9 hsz (by rw [ham, hap]; exact hr))
  clear C hr ham hap
  go_enter Try.func92, Try.ntmps92
  go_wp2_with fail
  refine HK.out.mono ?_
  rintro e w1 ⟨rfl, g1⟩
  have C1 := Hid.mk' g1
  clear g1
  go_wp2
  go_ret
  exact ⟨rfl, C1.out⟩
def hintT (t : Nat) : Hint := if t = 0 then .increasing else if t = 12 then .decreasing else .unknown
def hintZ : Hint → Int
  | .unknown => 0
  | .increasing => 1
  | .decreasing => 2
theorem piv_big (d : Array Int) (a b q i' s1 j' s2 k' s3 m t : Nat) (hq : q = (b - a) / 4) (h : 50 ≤ b - a) (h1 : medianAdjacent ltInt d (a + q * 1) 0 = (i', s1)) (h2 : medianAdjacent ltInt d (a + q * 2) s1 = (j', s2)) (h3 : medianAdjacent ltInt d (a + q * 3) s2 = (k', s3)) (h4 : median ltInt d i' j' k' s3 = (m, t)) :
    choosePivot ltInt d a b = (m, hintT t) := by
  subst hq
  unfold choosePivot
  simp only []
  rw [if_pos (by omega), if_pos (by omega), h1]
  simp only []
  rw [h2]
  simp only []
  rw [h3]
  simp only []
  rw [h4]
  rfl
theorem piv_small (d : Array Int) (a b q m t : Nat) (hq : q = (b - a) / 4) (h8 : 8 ≤ b - a) (h : ¬ 50 ≤ b - a) (h4 : median ltInt d (a + q * 1) (a + q * 2) (a + q * 3) 0 = (m, t)) :
    choosePivot ltInt d a b = (m, hintT t) := by
  subst hq
  unfold choosePivot
  simp only []
  rw [if_pos (by omega), if_neg (by omega), h4]
  rfl
theorem adj_in (d : Array Int) (a s m t : Nat) (h : medianAdjacent ltInt d a s = (m, t)) : (m = a - 1 ∨ m = a ∨ m = a + 1) ∧ t ≤ s + 3 := by
  have h1 := medianAdjacent_mem ltInt d a s
  have h2 := medianAdjacent_count (lt := ltInt) d a s
  rw [h] at h1 h2
  exact ⟨h1, h2⟩
set_option maxHeartbeats 8000000 in
set_option maxRecDepth 100000 in
theorem pivot_u32 (blk off cap a b : Nat) (d0 dk : Array Int) (w0 w : World) (R : Row1 (.int .u32) w0 blk off d0) (hs : dk.size = d0.size) (S : SW (.int .u32) w0 blk off dk w) (h8 : 8 ≤ b - a) (hb : b ≤ d0.size) (hsz : d0.size < 4611686018427387904) :
    Calls Try.prog 77 #[.slice (some ⟨blk, off, none⟩) d0.size cap, .int .i64 a, .int .i64 b] w fun e w' => e = .returned (.tuple #[.int .i64 (choosePivot ltInt dk a b).1, .int .i64 (hintZ (choosePivot ltInt dk a b).2)]) ∧ SW (.int .u32) w0 blk off dk w' := by
  obtain ⟨l, hl⟩ : ∃ l, l = b - a := ⟨_, rfl⟩
  obtain ⟨q, hq⟩ : ∃ q, q = l / 4 := ⟨_, rfl⟩
  have el : (b : Int) - (a : Int) = (l : Int) := by omega
  have eq4 : (l : Int).tdiv 4 = (q : Int) := by rw [Int.tdiv_eq_ediv_of_nonneg (by omega)]; omega
  obtain ⟨i, hi⟩ : ∃ i, i = a + q * 1 := ⟨_, rfl⟩
  obtain ⟨j, hj⟩ : ∃ j, j = a + q * 2 := ⟨_, rfl⟩
  obtain ⟨k, hk⟩ : ∃ k, k = a + q * 3 := ⟨_, rfl⟩
  have ei : (a : Int) + (q : Int) = (i : Int) := by omega
  have ej : (a : Int) + (q : Int) * 2 = (j : Int) := by omega
  have ek : (a : Int) + (q : Int) * 3 = (k : Int) := by omega
  have hq2 : 2 ≤ q := by omega
  have hkb : k + 1 < b := by omega
  have hij : i < j ∧ j < k ∧ 1 ≤ i ∧ 1 ≤ j ∧ 1 ≤ k := by omega
  have hl8 : (8 : Int) ≤ (l : Int) := by omega
  have C0 := Hid.mk' (Cnt1.start S 3)
  have HQ : Hid (q = (b - a) / 4 ∧ l = b - a ∧ i = a + q * 1 ∧ j = a + q * 2 ∧ k = a + q * 3) := ⟨by rw [hq, hl], hl, hi, hj, hk⟩
  have hql : q ≤ l := by omega
  have hll : l < 4611686018427387904 := by omega
  clear hl hq hi hj hk
  obtain ⟨h1, h2, h3, h4, h5⟩ := hij
  obtain ⟨c, hc⟩ : ∃ c, c = w.heap.size := ⟨_, rfl⟩
  by_cases h50 : 50 ≤ b - a
  · obtain ⟨⟨i', s1⟩, r1⟩ : ∃ r, medianAdjacent ltInt dk i 0 = r := ⟨_, rfl⟩
    obtain ⟨⟨j', s2⟩, r2⟩ : ∃ r, medianAdjacent ltInt dk j s1 = r := ⟨_, rfl⟩
    obtain ⟨⟨k', s3⟩, r3⟩ : ∃ r, medianAdjacent ltInt dk k s2 = r := ⟨_, rfl⟩
    obtain ⟨⟨m, t⟩, r4⟩ : ∃ r, median ltInt dk i' j' k' s3 = r := ⟨_, rfl⟩
    obtain ⟨n1, c1⟩ := adj_in dk i 0 i' s1 r1
    obtain ⟨n2, c2⟩ := adj_in dk j s1 j' s2 r2
    obtain ⟨n3, c3⟩ := adj_in dk k s2 k' s3 r3
    have HCH : Hid (choosePivot ltInt dk a b = (m, hintT t)) := by
      obtain ⟨q1, q2, q3, q4, q5⟩ := HQ.out
      exact piv_big dk a b q i' s1 j' s2 k' s3 m t q1 h50 (by rw [← q3]; exact r1) (by rw [← q4]; exact r2) (by rw [← q5]; exact r3) r4
    have HK1 := Hid.mk' (fun w1 C1 => medAdj_u32 blk off cap i w.heap.size 0 i' s1 d0 dk w0 w1 R hs C1 (by omega) (by omega) (by omega) hsz r1)
    have HK2 := Hid.mk' (fun w1 C1 => medAdj_u32 blk off cap j w.heap.size s1 j' s2 d0 dk w0 w1 R hs C1 (by omega) (by omega) (by omega) hsz r2)
    have HK3 := Hid.mk' (fun w1 C1 => medAdj_u32 blk off cap k w.heap.size s2 k' s3 d0 dk w0 w1 R hs C1 (by omega) (by omega) (by omega) hsz r3)
    have HK4 := Hid.mk' (fun w1 C1 => median_u32 blk off cap i' j' k' w.heap.size s3 m t d0 dk w0 w1 R hs C1 (by omega) (by omega) (by omega) (by omega) hsz r4)
    have hl50 : (50 : Int) ≤ (l : Int) := by have := HQ.out.2.1; omega
    clear n1 n2 n3 c1 c2 c3 S
    go_enter Try.func77, Try.ntmps77
    go_wp2_with fail
    all_goals (try (exfalso; omega))
    refine (HK1.out _ C0.out).mono ?_
    rintro e w1 ⟨rfl, g1⟩
    have C1 := Hid.mk' g1
    clear g1 C0
    go_wp2_with fail
    refine (HK2.out _ C1.out).mono ?_
    rintro e w2 ⟨rfl, g1⟩
    have C2 := Hid.mk' g1
    clear g1
    go_wp2_with fail
    refine (HK3.out _ C2.out).mono ?_
    rintro e w3 ⟨rfl, g1⟩
    have C3 := Hid.mk' g1
    clear g1
    go_wp2_with fail
    refine (HK4.out _ C3.out).mono ?_
    rintro e w4 ⟨rfl, g1⟩
    have C4 := Hid.mk' g1
    clear g1
    have hcc := C4.out.2.1
    have hcf := C4.out.2.2.1
    by_cases ht0 : t = 0
    · subst ht0
      go_wp2
      go_ret2
      rw [HCH.out]
      exact ⟨rfl, C4.out.1⟩
    · by_cases ht1 : t = 12
      · subst ht1
        go_wp2
        go_ret2
        rw [HCH.out]
        exact ⟨rfl, C4.out.1⟩
      · have t0z : ¬ (t : Int) = 0 := by omega
        have t1z : ¬ (t : Int) = 12 := by omega
        go_wp2
        all_goals (try (exfalso; omega))
        go_ret2
        rw [HCH.out, show hintT t = .unknown from by unfold hintT; rw [if_neg ht0, if_neg ht1]]
        exact ⟨rfl, C4.out.1⟩
  · obtain ⟨⟨m, t⟩, r4⟩ : ∃ r, median ltInt dk i j k 0 = r := ⟨_, rfl⟩
    have HCH : Hid (choosePivot ltInt dk a b = (m, hintT t)) := by
      obtain ⟨q1, q2, q3, q4, q5⟩ := HQ.out
      exact piv_small dk a b q m t q1 h8 h50 (by rw [← q3, ← q4, ← q5]; exact r4)
    have HK4 := Hid.mk' (fun w1 C1 => median_u32 blk off cap i j k w.heap.size 0 m t d0 dk w0 w1 R hs C1 (by omega) (by omega) (by omega) (by omega) hsz r4)
    have hl50 : ¬ (50 : Int) ≤ (l : Int) := by have := HQ.out.2.1; omega
    clear S
    go_enter Try.func77, Try.ntmps77
    go_wp2_with fail
    all_goals (try (exfalso; omega))
    refine (HK4.out _ C0.out).mono ?_
    rintro e w4 ⟨rfl, g1⟩
    have C4 := Hid.mk' g1
    clear g1 C0
    have hcc := C4.out.2.1
    have hcf := C4.out.2.2.1
    by_cases ht0 : t = 0
    · subst ht0
      go_wp2
      go_ret2
      rw [HCH.out]
      exact ⟨rfl, C4.out.1⟩
    · by_cases ht1 : t = 12
      · subst ht1
        go_wp2
        go_ret2
        rw [HCH.out]
        exact ⟨rfl, C4.out.1⟩
      · have t0z : ¬ (t : Int) = 0 := by omega
        have t1z : ¬ (t : Int) = 12 := by omega
        go_wp2
        all_goals (try (exfalso; omega))
        go_ret2
        rw [HCH.out, show hintT t = .unknown from by unfold hintT; rw [if_neg ht0, if_neg ht1]]
        exact ⟨rfl, C4.out.1⟩
def lay_next_ren : Go.Shelf.Ren := ⟨fun | 48 => 91 | n => n, fun | 76 => 135 | 55 => 122 | 0 => 0 | 66 => 127 | 39 => 104 | n => n, fun n => n⟩
theorem lay_next : SlLaysF0.n48 Try.prog lay_next_ren := {
  mixed := by kernel_rfl,
  f48 := Try.func91.trans (congrArg some (by kernel_rfl)),
  t0 := Try.underlying0,
  a0 := Try.isAgg0,
  z0 := Try.sizeOf0,
  v0 := Try.zeroValue0,
  t39 := Try.underlying104,
  a39 := Try.isAgg104,
  z39 := Try.sizeOf104,
  v39 := Try.zeroValue104,
  t55 := Try.underlying122,
  a55 := Try.isAgg122,
  z55 := Try.sizeOf122,
  v55 := Try.zeroValue122,
  t66 := Try.underlying127,
  a66 := Try.isAgg127,
  z66 := Try.sizeOf127,
  v66 := Try.zeroValue127,
  t76 := Try.underlying135,
  a76 := Try.isAgg135,
  z76 := Try.sizeOf135,
  v76 := Try.zeroValue135 }

def lay_npot_ren : Go.Shelf.Ren := ⟨fun | 47 => 90 | 15 => 63 | 28 => 83 | 29 => 84 | n => n, fun | 3 => 3 | 39 => 104 | 53 => 22 | 55 => 122 | 4 => 4 | 5 => 5 | 9 => 9 | n => n, fun n => n⟩
theorem lay_npot : SlLaysF0.n47 Try.prog lay_npot_ren := {
  mixed := by kernel_rfl,
  f15 := Try.func63.trans (congrArg some (by kernel_rfl)),
  f28 := Try.func83.trans (congrArg some (by kernel_rfl)),
  f29 := Try.func84.trans (congrArg some (by kernel_rfl)),
  f47 := Try.func90.trans (congrArg some (by kernel_rfl)),
  t3 := Try.underlying3,
  a3 := Try.isAgg3,
  z3 := Try.sizeOf3,
  v3 := Try.zeroValue3,
  t4 := Try.underlying4,
  a4 := Try.isAgg4,
  z4 := Try.sizeOf4,
  v4 := Try.zeroValue4,
  t5 := Try.underlying5,
  a5 := Try.isAgg5,
  z5 := Try.sizeOf5,
  v5 := Try.zeroValue5,
  t9 := Try.underlying9,
  a9 := Try.isAgg9,
  z9 := Try.sizeOf9,
  v9 := Try.zeroValue9,
  t39 := Try.underlying104,
  a39 := Try.isAgg104,
  z39 := Try.sizeOf104,
  v39 := Try.zeroValue104,
  t53 := Try.underlying22,
  a53 := Try.isAgg22,
  z53 := Try.sizeOf22,
  v53 := Try.zeroValue22,
  t55 := Try.underlying122,
  a55 := Try.isAgg122,
  z55 := Try.sizeOf122,
  v55 := Try.zeroValue122 }

/-- A world of the sort's with a number of 64 bits in a cell of its own. -/
def Rnd (w0 : World) (blk off : Nat) (dk : Array Int) (c X : Nat) (W : World) : Prop :=
  SW (.int .u32) w0 blk off dk W ∧ W.cell? ⟨c, 0, none⟩ = some (.int .u64 (X : Int)) ∧ W.frozen? ⟨c, 0, none⟩ = false ∧ w0.heap.size ≤ c
theorem Rnd.next {w0 W : World} {blk off c X : Nat} {dk : Array Int} (h : Rnd w0 blk off dk c X W) (Y : Nat) : Rnd w0 blk off dk c Y ((W.setCell ⟨c, 0, none⟩ (.int .u64 (Y : Int))).drewN 3) :=
  ⟨(h.1.setCell_new c 0 _ h.2.2.2).drewN 3, by show (W.setCell ⟨c, 0, none⟩ (.int .u64 (Y : Int))).cell? _ = _; exact World.cell?_setCell_same' _ _ _ (by rw [h.2.1]; rfl), by show (W.setCell ⟨c, 0, none⟩ (.int .u64 (Y : Int))).frozen? _ = _; rw [World.frozen?_setCell]; exact h.2.2.1, h.2.2.2⟩
theorem Rnd.swap {w0 W : World} {blk off c X : Nat} {d0 dk : Array Int} (h : Rnd w0 blk off dk c X W) (R : Row1 (.int .u32) w0 blk off d0) (i j : Nat) (hi : i < dk.size) (hj : j < dk.size) :
    Rnd w0 blk off (swp dk i j) c X ((W.setCell ⟨blk, off + i, none⟩ (.int .u32 dk[j]!)).setCell ⟨blk, off + j, none⟩ (.int .u32 dk[i]!)).drew := by
  have hne : c ≠ blk := by have h1 := R.hblk; have h2 := h.2.2.2; omega
  have hk := box_kept_swap1 hne h.2.1 h.2.2.1 (off + i) (off + j) (.int .u32 dk[j]!) (.int .u32 dk[i]!)
  exact ⟨h.1.swapped R i j hi hj, hk.1, hk.2, h.2.2.2⟩
set_option maxHeartbeats 8000000 in
set_option maxRecDepth 100000 in
theorem break_u32 (blk off cap a L : Nat) (d0 d : Array Int) (w0 w : World) (R : Row1 (.int .u32) w0 blk off d0) (hs : d.size = d0.size) (S : SW (.int .u32) w0 blk off d w) (h8 : 8 ≤ L) (hb : a + L ≤ d0.size) (hsz : d0.size < 4611686018427387904) :
    Calls Try.prog 76 #[.slice (some ⟨blk, off, none⟩) d0.size cap, .int .i64 a, .int .i64 ((a + L : Nat) : Int)] w fun e w' => e = .returned (.tuple #[]) ∧ SW (.int .u32) w0 blk off (breakPatterns d a (a + L)) w' := by
  obtain ⟨b, hb0⟩ : ∃ b, b = a + L := ⟨_, rfl⟩
  rw [← hb0]
  obtain ⟨M, hM⟩ : ∃ M : Nat, M = 1 <<< bitsLen L := ⟨_, rfl⟩
  have hM1 : 1 ≤ M := by rw [hM, Nat.one_shiftLeft]; exact Nat.two_pow_pos _
  have hM2 : M ≤ 2 * L := by rw [hM, Nat.one_shiftLeft]; exact two_pow_bitsLen_le (by omega)
  obtain ⟨q, hq⟩ : ∃ q, q = L / 4 := ⟨_, rfl⟩
  obtain ⟨i0, hi0⟩ : ∃ i0, i0 = a + q * 2 - 1 := ⟨_, rfl⟩
  obtain ⟨i2, hi2⟩ : ∃ i2, i2 = i0 + 2 := ⟨_, rfl⟩
  have HB : Hid (breakPatterns d a b = bpRest a L M i0 3 0 (UInt64.ofNat L, d)) := by
    show breakPatterns d a b = _
    rw [hb0, breakPatterns_eq d a L h8, hM, hi0, hq]
  have HNP := Hid.mk' (fun w => AnyF.nextPowerOfTwo (P := Try.prog) lay_npot L (by omega) w)
  rw [← hM] at HNP
  have eL : (b : Int) - (a : Int) = (L : Int) := by omega
  have eq4 : (L : Int).tdiv 4 = (q : Int) := by rw [Int.tdiv_eq_ediv_of_nonneg (by omega)]; omega
  have e0 : (a : Int) + (q : Int) * 2 - 1 = (i0 : Int) := by omega
  have e2 : (a : Int) + (q : Int) * 2 + 1 = (i2 : Int) := by omega
  have hL8 : (8 : Int) ≤ (L : Int) := by omega
  have hLl : L < 4611686018427387904 := by omega
  have hi2l : i2 < b := by omega
  have hql : q ≤ L := by omega
  have HI2 : Hid (i2 = i0 + 2) := hi2
  have HBB : Hid (b = a + L) := hb0
  have hbl : b ≤ d0.size := by omega
  have hLb : L ≤ b := by omega
  have hab : a ≤ b := by omega
  clear hM hq hi0 hi2 hb hb0
  have Q0 : Hid (Rnd w0 blk off d w.heap.size L (w.alloc (.cells #[.int .u64 (L : Int)] 127))) := ⟨S.alloc _, by simp, by simp, S.le⟩
  clear S
  go_enter Try.func76, Try.ntmps76
  go_wp2_with fail
  refine (HNP.out _).mono ?_
  rintro e w1 ⟨rfl, rfl⟩
  go_wp2
  obtain ⟨c, hcc⟩ : ∃ c, c = w.heap.size := ⟨_, rfl⟩
  rw [← hcc] at Q0
  go_loopw [9, 10] (fun v9 v10 wr => ∃ (x t : Nat) (r : UInt64) (dk : Array Int), v9 = .int .i64 x ∧ Hid (x = i0 + t) ∧ t ≤ 3 ∧ x ≤ i2 + 1 ∧ dk.size = d0.size ∧ Hid (Rnd w0 blk off dk c r.toNat wr) ∧ Hid (bpRest a L M i0 (3 - t) t (r, dk) = bpRest a L M i0 3 0 (UInt64.ofNat L, d)))
    (fun v9 v10 _ => i2 + 1 - (intOf v9).toNat)
  case atStart => exact ⟨i0, 0, UInt64.ofNat L, d, rfl, rfl, by omega, by have := HI2.out; omega, hs, by rw [show (UInt64.ofNat L).toNat = L from by simp; omega]; exact Q0, rfl⟩
  case round =>
    clear Q0 hs
    obtain ⟨x, t, r, dk, rfl, HX, ht3, hxi, hds, Q1, HR⟩ := hrel
    by_cases hx : x ≤ i2
    · obtain ⟨X, hX⟩ : ∃ X : Nat, X = r.toNat := ⟨_, rfl⟩
      have lX : X < 18446744073709551616 := by rw [hX]; exact r.toNat_lt
      obtain ⟨Y, hY⟩ : ∃ Y : Nat, Y = xorNextN X := ⟨_, rfl⟩
      have lY : Y < 18446744073709551616 := by rw [hY]; exact xorNextN_lt X lX
      obtain ⟨O, hO⟩ : ∃ O : Nat, O = Y &&& (M - 1) := ⟨_, rfl⟩
      have lO : O ≤ M - 1 := by rw [hO]; exact Nat.and_le_right
      have eAnd : bits .and .u64 (Y : Int) ((M : Int) - 1) = (O : Int) := by
        rw [show ((M : Int) - 1) = ((M - 1 : Nat) : Int) by omega, bits_and_u64_nat _ _ lY (by omega), hO]
      have HN : Hid (Y = (xorNext r).toNat ∧ O = (xorNext r).toNat &&& (M - 1)) := by
        have e : Y = (xorNext r).toNat := by rw [hY, hX, xorNext_toNat]
        exact ⟨e, by rw [hO, e]⟩
      have hcB : wr.cell? ⟨c, 0, none⟩ = some (.int .u64 (X : Int)) := by rw [hX]; exact Q1.out.2.1
      have hNext := AnyF.xorshift_Next (P := Try.prog) lay_next c 0 X lX wr hcB Q1.out.2.2.1
      rw [← hY] at hNext
      have HNX := Hid.mk' hNext
      have Q2 : Hid (Rnd w0 blk off dk c Y ((wr.setCell ⟨c, 0, none⟩ (.int .u64 (Y : Int))).drewN 3)) := Q1.out.next Y
      clear hNext hX hY hO hcB Q1
      have hxl : x < d0.size := by omega
      go_wp2_with fail
      rw [← hcc]
      refine HNX.out.mono ?_
      rintro e w2 ⟨rfl, rfl⟩
      generalize (wr.setCell ⟨c, 0, none⟩ (.int .u64 (Y : Int))).drewN 3 = w2 at Q2 ⊢
      obtain ⟨G, hG, hc, hf⟩ := row_facts Q2.out.1 R hds
      go_wp2
      · have hLO : L ≤ O := by omega
        obtain ⟨p, hp⟩ : ∃ p, p = a + (O - L) := ⟨_, rfl⟩
        have ep : (a : Int) + ((O : Int) - (L : Int)) = (p : Int) := by omega
        have hpl : p < d0.size := by have := HBB.out; omega
        have HP : Hid (p = a + (O - L)) := hp
        clear hp
        obtain ⟨u, hu⟩ := Q2.out.1.c2 R hds x p (by omega) (by omega) (.int .u32 (G p))
        go_region
        all_goals go_wp2
        go_roundw
        case rel =>
          have ht : t < 3 := by have h1 := HX.out; have h2 := HI2.out; omega
          refine ⟨x + 1, t + 1, xorNext r, swp dk x p, by go_num, by have := HX.out; exact (by omega : x + 1 = i0 + (t + 1)), by omega, by omega, by rw [size_swp]; exact hds, ?_, ?_⟩
          · rw [← HN.out.1]
            have := Q2.out.swap R x p (by omega) (by omega)
            rw [← hG.out x, ← hG.out p] at this
            exact this
          · show _ = _
            rw [← HR.out, bp_step a L M i0 t r dk (O - L) ht (by rw [← HN.out.2, if_pos hLO]), ← HX.out, ← HP.out]
        case measure => simp [intOf]; omega
      · have hLO : ¬ L ≤ O := by omega
        obtain ⟨p, hp⟩ : ∃ p, p = a + O := ⟨_, rfl⟩
        have ep : (a : Int) + (O : Int) = (p : Int) := by omega
        have hpl : p < d0.size := by have := HBB.out; omega
        have HP : Hid (p = a + O) := hp
        clear hp
        obtain ⟨u, hu⟩ := Q2.out.1.c2 R hds x p (by omega) (by omega) (.int .u32 (G p))
        go_region
        all_goals go_wp2
        go_roundw
        case rel =>
          have ht : t < 3 := by have h1 := HX.out; have h2 := HI2.out; omega
          refine ⟨x + 1, t + 1, xorNext r, swp dk x p, by go_num, by have := HX.out; exact (by omega : x + 1 = i0 + (t + 1)), by omega, by omega, by rw [size_swp]; exact hds, ?_, ?_⟩
          · rw [← HN.out.1]
            have := Q2.out.swap R x p (by omega) (by omega)
            rw [← hG.out x, ← hG.out p] at this
            exact this
          · show _ = _
            rw [← HR.out, bp_step a L M i0 t r dk O ht (by rw [← HN.out.2, if_neg hLO]), ← HX.out, ← HP.out]
        case measure => simp [intOf]; omega
    · go_wp2
      go_end0
      have ht : t = 3 := by have h1 := HX.out; have h2 := HI2.out; omega
      have h := HR.out
      rw [ht] at h
      rw [HB.out, ← h]
      exact ⟨rfl, Q1.out.1⟩
end Go.Proofs.Ytgelpccjdndfoaa.P
