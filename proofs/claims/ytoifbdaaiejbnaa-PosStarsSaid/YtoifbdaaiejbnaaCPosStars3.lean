/-
  Proved: for every input the law PosStars answers true, and each argument reads behind the call as it read before.
  Conditions: none beside the row's own.
-/
import Derived.Sort.AssemblyPlain
import Derived.Shelf.SlSortCmp.WholeK
import Derived.Shelf.SlSortCmp.NoneTotal
import Derived.RowKit
import Derived.WalkKit
import Derived.KernelRfl
import Derived.Deep.Slices
import Derived.SizedLaws
import Derived.Shelf.Spec.SlicesInsertGrow
import Derived.Test.YtoifbdaaiejbnaaRows
import Derived.ProofKit
import Derived.OpenShut
import Derived.ChangeOld
import Derived.Below
import Derived.Carry
import Derived.Test.YtoifbdaaiejbnaaCPosStars0
import Derived.Test.YtoifbdaaiejbnaaCPosStars1
import Derived.Test.YtoifbdaaiejbnaaCPosStars2
set_option linter.unusedVariables false
set_option linter.unusedSimpArgs false
/- slices.SortFunc at spans, by their begins: over the slice it is given. -/
namespace Go.Proofs.Ytoifbdaaiejbnaa.D
open Go Go.RowKit Go.Sort Go.Shelf Go.Lib

section
variable {α : Type} [Inhabited α] {enc : α → List Value} {sz e g cap n : Nat} {w : World} {cur : Array Value} {l : List α}

/- the cells of a row, in the sort's words -/
theorem flat_of (hk : ∀ x, (enc x).length = sz) (hpos : 0 < sz) {xs : List Value} (hx : ∀ (i j : Nat) x v, l[i]? = some x → (enc x)[j]? = some v → xs[i * sz + j]? = some v) (t : Nat) (ht : t < l.length * sz) :
    xs[t]? = some ((flatK enc sz l.toArray)[t]!) := by
  rw [get_flatK enc sz l.toArray t (by simpa using ht)]
  have hq : t / sz < l.length := Nat.div_lt_of_lt_mul (by rw [Nat.mul_comm]; exact ht)
  have hm : t % sz < sz := Nat.mod_lt _ hpos
  have e1 : l.toArray[t / sz]! = l[t / sz] := by rw [getElem!_pos l.toArray _ (by simpa using hq)]; simp
  have hm' : t % sz < (enc l[t / sz]).length := by rw [hk]; exact hm
  rw [e1, getElem!_pos (enc l[t / sz]) _ hm']
  have := hx (t / sz) (t % sz) l[t / sz] ((enc l[t / sz])[t % sz]'hm') (List.getElem?_eq_getElem hq) (List.getElem?_eq_getElem hm')
  rwa [Nat.div_add_mod'] at this

theorem holds_of (hk : ∀ x, (enc x).length = sz) (hpos : 0 < sz) (hb : w.heap[g]? = some (.cells cur e (0, 0))) (hc : l.length * sz ≤ cur.size)
    (hx : ∀ (i j : Nat) x v, l[i]? = some x → (enc x)[j]? = some v → cur.toList[i * sz + j]? = some v) : HoldsK enc sz w g 0 l.toArray := by
  intro j hj
  rw [size_flatK, List.size_toArray] at hj
  rw [Nat.zero_add]
  refine ⟨?_, by simp [World.frozen?, hb]⟩
  have := flat_of hk hpos hx j hj
  rw [cell_of_block hb, ← Array.getElem?_toList, this]; rfl

theorem sorted_block (w : World) (m : Nat) (D : Array α) (os : Array Obj) (hb : w.heap[g]? = some (.cells cur e (0, 0))) :
    (grow (putRowK enc sz (Sort.ahead w m) g 0 D) os).heap[g]? = some (.cells (putCells id 0 (flatK enc sz D) cur) e (0, 0)) ∧
    (∀ k, k < w.heap.size → k ≠ g → (grow (putRowK enc sz (Sort.ahead w m) g 0 D) os).heap[k]? = w.heap[k]?) ∧ w.heap.size ≤ (grow (putRowK enc sz (Sort.ahead w m) g 0 D) os).heap.size := by
  have hg : g < w.heap.size := (Array.getElem?_eq_some_iff.1 hb).1
  have hsz : (putRowK enc sz (Sort.ahead w m) g 0 D).heap.size = w.heap.size := by
    unfold putRowK
    rw [size_putRow]
    rfl
  have hlt : ∀ k : Nat, k < w.heap.size → (grow (putRowK enc sz (Sort.ahead w m) g 0 D) os).heap[k]? = (putRowK enc sz (Sort.ahead w m) g 0 D).heap[k]? := fun k hk => by
    unfold grow
    exact Array.getElem?_append_left (by rw [hsz]; exact hk)
  have hmod : ∀ k : Nat, (putRowK enc sz (Sort.ahead w m) g 0 D).heap[k]? = (w.heap.modify g (onCells (putCells id 0 (flatK enc sz D))))[k]? := fun k => rfl
  refine ⟨?_, ?_, ?_⟩
  · rw [hlt g hg, hmod, Array.getElem?_modify, if_pos rfl, hb]
    rfl
  · intro k hk hne
    rw [hlt k hk, hmod, Array.getElem?_modify, if_neg (fun h => hne h.symm)]
  · unfold grow
    rw [Array.size_append, hsz]
    omega

theorem put_get (hk : ∀ x, (enc x).length = sz) (hpos : 0 < sz) (hc : l.length * sz ≤ cur.size) : ∀ (i j : Nat) x v, l[i]? = some x → (enc x)[j]? = some v → (putCells id 0 (flatK enc sz l.toArray) cur).toList[i * sz + j]? = some v := by
  intro i j x v hi hj
  obtain ⟨hil, rfl⟩ := List.getElem?_eq_some_iff.1 hi
  have hjl : j < sz := by have := (List.getElem?_eq_some_iff.1 hj).1; rwa [hk] at this
  have ht : i * sz + j < l.length * sz := flat_lt hil hjl
  rw [Array.getElem?_toList]
  unfold putCells
  rw [Array.getElem?_mapIdx, Array.getElem?_eq_getElem (show i * sz + j < cur.size by omega), Option.map_some, if_pos ⟨Nat.zero_le _, by rw [size_flatK]; simpa using ht⟩, Nat.sub_zero, id,
    get_flatK enc sz l.toArray _ (by simpa using ht)]
  have e1 : (i * sz + j) / sz = i := by rw [Nat.mul_comm, Nat.mul_add_div hpos, Nat.div_eq_of_lt hjl, Nat.add_zero]
  have e2 : (i * sz + j) % sz = j := by rw [Nat.mul_comm, Nat.mul_add_mod, Nat.mod_eq_of_lt hjl]
  have e3 : l.toArray[i]! = l[i] := by rw [getElem!_pos l.toArray _ (by simpa using hil)]; simp
  rw [e1, e2, e3, getElem!_pos (enc l[i]) _ (by rw [hk]; exact hjl)]
  rw [List.getElem?_eq_getElem (by rw [hk]; exact hjl)] at hj
  exact hj

end

def encP (x : Int × Int) : List Value := [.int .u32 x.1, .int .u32 x.2]

def lay_SortFunc_Span_ren : Go.Shelf.Ren := ⟨fun | 6 => 55 | 15 => 67 | 14 => 66 | 28 => 82 | 29 => 83 | 20 => 74 | 21 => 75 | 22 => 76 | 23 => 77 | 24 => 78 | 25 => 79 | 26 => 80 | 27 => 81 | 46 => 87 | 47 => 88 | 48 => 89 | 49 => 90 | 50 => 91 | 57 => 92 | n => n, fun | 22 => 22 | 24 => 80 | 25 => 97 | 3 => 3 | 39 => 102 | 0 => 0 | 53 => 48 | 55 => 74 | 4 => 4 | 46 => 113 | 45 => 112 | 50 => 88 | 5 => 5 | 9 => 9 | 66 => 123 | 70 => 127 | 76 => 129 | 77 => 50 | n => n, fun n => n⟩
theorem lay_SortFunc_Span : SlLaysF0.n6 Try.prog lay_SortFunc_Span_ren := {
  mixed := by kernel_rfl,
  f6 := ⟨Try.f55.name, by decide, Try.func55.trans (congrArg some (by kernel_rfl))⟩,
  f14 := ⟨Try.f66.name, by decide, Try.func66.trans (congrArg some (by kernel_rfl))⟩,
  f15 := Try.func67.trans (congrArg some (by kernel_rfl)),
  f20 := ⟨Try.f74.name, by decide, Try.func74.trans (congrArg some (by kernel_rfl))⟩,
  f21 := ⟨Try.f75.name, by decide, Try.func75.trans (congrArg some (by kernel_rfl))⟩,
  f22 := ⟨Try.f76.name, by decide, Try.func76.trans (congrArg some (by kernel_rfl))⟩,
  f23 := ⟨Try.f77.name, by decide, Try.func77.trans (congrArg some (by kernel_rfl))⟩,
  f24 := ⟨Try.f78.name, by decide, Try.func78.trans (congrArg some (by kernel_rfl))⟩,
  f25 := ⟨Try.f79.name, by decide, Try.func79.trans (congrArg some (by kernel_rfl))⟩,
  f26 := ⟨Try.f80.name, by decide, Try.func80.trans (congrArg some (by kernel_rfl))⟩,
  f27 := ⟨Try.f81.name, by decide, Try.func81.trans (congrArg some (by kernel_rfl))⟩,
  f28 := Try.func82.trans (congrArg some (by kernel_rfl)),
  f29 := Try.func83.trans (congrArg some (by kernel_rfl)),
  f46 := ⟨Try.f87.name, by decide, Try.func87.trans (congrArg some (by kernel_rfl))⟩,
  f47 := Try.func88.trans (congrArg some (by kernel_rfl)),
  f48 := Try.func89.trans (congrArg some (by kernel_rfl)),
  f49 := ⟨Try.f90.name, by decide, Try.func90.trans (congrArg some (by kernel_rfl))⟩,
  f50 := ⟨Try.f91.name, by decide, Try.func91.trans (congrArg some (by kernel_rfl))⟩,
  f57 := ⟨Try.f92.name, by decide, Try.func92.trans (congrArg some (by kernel_rfl))⟩,
  t0 := Try.underlying0,
  a0 := Try.isAgg0,
  z0 := Try.sizeOf0,
  v0 := Try.zeroValue0,
  t3 := Try.underlying3,
  a3 := Try.isAgg3,
  z3 := Try.sizeOf3,
  v3 := Try.zeroValue3,
  t4 := Try.underlying4,
  a4 := Try.isAgg4,
  z4 := Try.sizeOf4,
  v4 := Try.zeroValue4,
  t5 := Try.underlying5,
  a5 := Try.isAgg5,
  z5 := Try.sizeOf5,
  v5 := Try.zeroValue5,
  t9 := Try.underlying9,
  a9 := Try.isAgg9,
  z9 := Try.sizeOf9,
  v9 := Try.zeroValue9,
  t22 := Try.underlying22,
  a22 := Try.isAgg22,
  z22 := Try.sizeOf22,
  v22 := Try.zeroValue22,
  t25 := Try.underlying97,
  a25 := Try.isAgg97,
  z25 := Try.sizeOf97,
  v25 := Try.zeroValue97,
  t39 := Try.underlying102,
  a39 := Try.isAgg102,
  z39 := Try.sizeOf102,
  v39 := Try.zeroValue102,
  t45 := Try.underlying112,
  a45 := Try.isAgg112,
  z45 := Try.sizeOf112,
  v45 := Try.zeroValue112,
  t46 := Try.underlying113,
  a46 := Try.isAgg113,
  z46 := Try.sizeOf113,
  v46 := Try.zeroValue113,
  t50 := Try.underlying88,
  a50 := Try.isAgg88,
  z50 := Try.sizeOf88,
  v50 := Try.zeroValue88,
  t53 := Try.underlying48,
  a53 := Try.isAgg48,
  z53 := Try.sizeOf48,
  v53 := Try.zeroValue48,
  t55 := Try.underlying74,
  a55 := Try.isAgg74,
  z55 := Try.sizeOf74,
  v55 := Try.zeroValue74,
  t66 := Try.underlying123,
  a66 := Try.isAgg123,
  z66 := Try.sizeOf123,
  v66 := Try.zeroValue123,
  t70 := Try.underlying127,
  a70 := Try.isAgg127,
  z70 := Try.sizeOf127,
  v70 := Try.zeroValue127,
  t76 := Try.underlying129,
  a76 := Try.isAgg129,
  z76 := Try.sizeOf129,
  v76 := Try.zeroValue129,
  t77 := Try.underlying50,
  a77 := Try.isAgg50,
  z77 := Try.sizeOf50,
  v77 := Try.zeroValue50 }


set_option maxHeartbeats 1000000 in
theorem cmp_u32 (a b : Int) (W : World) : Calls Try.prog 57 #[.int .u32 a, .int .u32 b] W fun e w' => e = .returned (.int .i64 (if a < b then -1 else if b < a then 1 else 0)) ∧ w' = W := by
  by_cases h1 : a < b
  · have n1 : ¬ b < a := by omega
    go_enter Try.func57, Try.ntmps57
    go_wp2
    all_goals (go_ret; exact ⟨by simp [h1], rfl⟩)
  · by_cases h2 : b < a
    · go_enter Try.func57, Try.ntmps57
      go_wp2
      all_goals (go_ret; exact ⟨by simp [h1, h2], rfl⟩)
    · go_enter Try.func57, Try.ntmps57
      go_wp2
      all_goals (go_ret; exact ⟨by simp [h1, h2], rfl⟩)

theorem closureSpan (x y : Int × Int) (W : World) : Calls Try.prog 56 #[.agg #[.int .u32 x.1, .int .u32 x.2], .agg #[.int .u32 y.1, .int .u32 y.2]] W fun e w' => e = .returned (.int .i64 (cmpSpan x y)) ∧ ∃ q os', w' = grow (W.drewN q) os' := by
  have hcon := fun W' => cmp_u32 x.1 y.1 W'
  unfold cmpSpan
  generalize (if x.1 < y.1 then (-1 : Int) else if y.1 < x.1 then 1 else 0) = r at hcon ⊢
  have hu33 := Try.underlying80
  go_enter Try.func56, Try.ntmps56
  go_wp2_with (go_at_call 57; refine (hcon _).mono ?_; rintro e w' ⟨rfl, rfl⟩)
  go_ret
  exact ⟨rfl, 0, _, by rw [alloc_eq_grow, alloc_eq_grow, grow_grow]; rfl⟩

theorem cmpLaysSpan (blk off size : Nat) (w : World) : CmpLays Try.prog 56 #[] encP 2 cmpSpan blk off size w := fun _ _ _ _ x y => closureSpan x y _

theorem ltSpan (x y : Int × Int) : ltOf cmpSpan x y = decide (x.1 < y.1) := by
  unfold ltOf cmpSpan
  by_cases h1 : x.1 < y.1
  · simp [h1]
  · by_cases h2 : y.1 < x.1 <;> simp [h1, h2]
theorem swoSpan : SWO (ltOf cmpSpan) where
  irrefl x := by rw [ltSpan]; simp
  trans x y z h1 h2 := by rw [ltSpan] at *; simp at *; omega
  ntrans x y z h1 h2 := by rw [ltSpan] at *; simp at *; omega

theorem pdq_perm (l : List (Int × Int)) : (pdq (ltOf cmpSpan) l.toArray 0 l.length (Go.Lib.bitLen l.length) true true).toList.Perm l ∧ (pdq (ltOf cmpSpan) l.toArray 0 l.length (Go.Lib.bitLen l.length) true true).toList.Pairwise (fun a b => a.1 ≤ b.1) := by
  obtain ⟨⟨h1, h2, h3⟩, h4⟩ := pdq_sorts (ltOf cmpSpan) swoSpan l.toArray 0 l.length (Go.Lib.bitLen l.length) true true (Nat.zero_le _) (by simp) (Or.inl rfl)
  generalize pdq (ltOf cmpSpan) l.toArray 0 l.length (Go.Lib.bitLen l.length) true true = D at h1 h3 h4
  have hs : D.size = l.length := by simpa using h1
  have hp : D.toList.Perm l := by
    have e1 : D.extract 0 l.length = D := by rw [← hs]; simp
    have e2 : l.toArray.extract 0 l.length = l.toArray := by simp
    rw [e1, e2] at h3
    exact h3
  refine ⟨hp, ?_⟩
  rw [List.pairwise_iff_getElem]
  intro i j hi hj hij
  have hj' : j < l.length := by rw [← hs]; simpa using hj
  have h5 := h4 i j (Nat.zero_le _) hij hj'
  rw [ltSpan, getElem!_pos D j (by omega), getElem!_pos D i (by omega), decide_eq_false_iff_not] at h5
  rw [Array.getElem_toList, Array.getElem_toList]
  omega

/- what sortSpan gives -/
theorem sortSpan_eq {l r : List (Int × Int)} (h : sortSpan l = some r) : l.length < 4611686018427387904 ∧ (pdq (ltOf cmpSpan) l.toArray 0 l.length (Go.Lib.bitLen l.length) true true).toList = r := by
  unfold sortSpan at h
  split at h
  · cases h
    refine ⟨by simp, ?_⟩
    exact List.Perm.eq_nil (pdq_perm []).1
  · rename_i x
    cases h
    refine ⟨by simp, ?_⟩
    exact List.perm_singleton.mp (pdq_perm [x]).1
  · split at h
    · rename_i hl; exact ⟨hl, Option.some.inj h⟩
    · cases h

theorem sortSpan_sorts {l r : List (Int × Int)} (h : sortSpan l = some r) : r.Perm l ∧ r.Pairwise (fun a b => a.1 ≤ b.1) := by
  obtain ⟨_, e⟩ := sortSpan_eq h
  rw [← e]; exact pdq_perm l

theorem sortSpan_some (l : List (Int × Int)) (h : l.length < 4611686018427387904) : ∃ r, sortSpan l = some r := by
  unfold sortSpan
  split
  · exact ⟨_, rfl⟩
  · exact ⟨_, rfl⟩
  · rw [if_pos h]; exact ⟨_, rfl⟩

theorem rep_span {w : World} {A : Nat → Prop} {x : Int × Int} {j : Nat} {c : Cell} {u : Value} (hj : (rowCells spanRow x)[j]? = some c) (hr : RepC w A c u) : (encP x)[j]? = some u := by
  match j with
  | 0 => cases hj; rw [hr.int_inv]; rfl
  | 1 => cases hj; rw [hr.int_inv]; rfl
  | j + 2 => simp [rowCells, spanRow] at hj

theorem sortSpan_run (w : World) (v : Value) (x y : List (Int × Int)) (xs : List Value) (A : Nat → Prop) (hrow : w.ownsRow 0 80 2 v x.length xs)
    (hx : ∀ (i j : Nat) (p : Int × Int) c, x[i]? = some p → (rowCells spanRow p)[j]? = some c → ∃ u, xs[i * 2 + j]? = some u ∧ RepC w A c u) (hy : sortSpan x = some y) :
    Calls Try.prog 55 #[v, .func (.func 56) #[] #[]] w fun e w' => e = .returned (.tuple #[]) ∧ Step w w' (fun g => v.ownBlock = some g) ∧
      ∃ xs', w'.ownsRow 0 80 2 v y.length xs' ∧ ∀ (i j : Nat) (p : Int × Int) u, y[i]? = some p → (encP p)[j]? = some u → xs'[i * 2 + j]? = some u := by
  obtain ⟨hl, hp⟩ := sortSpan_eq hy
  have hyl : y.length = x.length := (sortSpan_sorts hy).1.length_eq
  have hxs : ∀ (i j : Nat) (p : Int × Int) u, x[i]? = some p → (encP p)[j]? = some u → xs[i * 2 + j]? = some u := by
    intro i j p u hi hj
    have hj2 : j < 2 := (List.getElem?_eq_some_iff.1 hj).1
    have hc : ∃ c, (rowCells spanRow p)[j]? = some c := by match j, hj2 with
      | 0, _ => exact ⟨_, rfl⟩
      | 1, _ => exact ⟨_, rfl⟩
    obtain ⟨c, hc⟩ := hc
    obtain ⟨q, h1, h2⟩ := hx i j p c hi hc
    rw [h1, ← hj, rep_span hc h2]
  rcases hrow.2 with ⟨rfl, hn⟩ | ⟨g, cap, cur, rfl, hb0, hb, hnc, hcm, hcs, htk⟩
  · have hx0 : x = [] := List.eq_nil_of_length_eq_zero hn
    subst hx0
    have hy0 : y = [] := List.eq_nil_of_length_eq_zero hyl
    subst hy0
    have hcon := AnyF.slices_SortFunc_none (P := Try.prog) (ρ := lay_SortFunc_Span_ren) { lay_SortFunc_Span with } none 0 (.func (.func 56) #[] #[]) w
    refine (show Calls Try.prog 55 _ _ _ from hcon).mono ?_
    rintro e w' ⟨rfl, rfl⟩
    exact ⟨rfl, Step.refl _ _, [], World.ownsRow_nil _ 0 _ 2, fun i j p u hi => by cases hi⟩
  · have hc2 : x.length * 2 ≤ cur.size := by rw [hcs]; exact Nat.mul_le_mul_right _ hnc
    have hcur : ∀ (i j : Nat) (p : Int × Int) u, x[i]? = some p → (encP p)[j]? = some u → cur.toList[i * 2 + j]? = some u := by
      intro i j p u hi hj
      have h1 := hxs i j p u hi hj
      rw [← htk] at h1
      have hlt := (List.getElem?_eq_some_iff.1 h1).1
      rw [List.length_take] at hlt
      rwa [List.getElem?_take_of_lt (by omega)] at h1
    have hH := holds_of (enc := encP) (sz := 2) (fun _ => rfl) (by decide) hb hc2 hcur
    have hcon := AnyQ.slices_SortFunc_eq lay_SortFunc_Span 2 Try.isAgg80 Try.sizeOf80 encP (fun _ => rfl) (fun x v hv => by simp [encP] at hv; rcases hv with rfl | rfl <;> rfl) cmpSpan swoSpan 56 #[] g 0 cap x.toArray w
      (enters_of Try.func56 (by kernel_rfl) rfl) (cmpLaysSpan g 0 _ w) hH (Array.getElem?_eq_some_iff.1 hb).1 (by simpa using hl)
    refine (show Calls Try.prog 55 _ _ _ from hcon).mono ?_
    rintro e w' ⟨rfl, n, os, rfl⟩
    have hD : pdq (ltOf cmpSpan) x.toArray 0 x.toArray.size (Go.Lib.bitLen x.toArray.size) true true = y.toArray := by rw [← hp]; simp
    rw [hD]
    obtain ⟨b1, b2, b3⟩ := sorted_block (enc := encP) (sz := 2) w n y.toArray os hb
    have hpl : (putCells id 0 (flatK encP 2 y.toArray) cur).size = cur.size := by simp [putCells]
    refine ⟨rfl, ⟨b3, fun k hk hn' => b2 k hk (fun e => hn' (by rw [e]; rfl)), rfl, rfl, rfl⟩, (putCells id 0 (flatK encP 2 y.toArray) cur).toList.take (y.length * 2), ?_, ?_⟩
    · have hpl2 : (List.take (y.length * 2) (putCells id 0 (flatK encP 2 y.toArray) cur).toList).length = y.length * 2 := by
        have h9 : (putCells id 0 (flatK encP 2 y.toArray) cur).toList.length = cur.size := hpl
        rw [List.length_take, h9]; omega
      refine ⟨hpl2, .inr ⟨g, cap, _, by rw [hyl], Nat.zero_le _, b1, by rw [hyl]; exact hnc, hcm, by rw [hpl]; exact hcs, rfl⟩⟩
    · intro i j p u hi hj
      have hil := (List.getElem?_eq_some_iff.1 hi).1
      have hjl : j < 2 := (List.getElem?_eq_some_iff.1 hj).1
      rw [List.getElem?_take_of_lt (flat_lt hil hjl)]
      exact put_get (enc := encP) (sz := 2) (fun _ => rfl) (by decide) (by rw [hyl]; exact hc2) i j p u hi hj

theorem map_els {α β : Type} (f : α → β) {l : List α} {i : Nat} {L : β} (h : (List.map f l)[i]? = some L) : ∃ p, l[i]? = some p ∧ f p = L := by
  rw [List.getElem?_map] at h
  exact Option.map_eq_some_iff.mp h
theorem els_map {α β : Type} (f : α → β) {l : List α} {i : Nat} {p : α} (h : l[i]? = some p) : (List.map f l)[i]? = some (f p) := by
  rw [List.getElem?_map, h]; rfl
theorem span_els {l : List (Int × Int)} {i : Nat} {L : List Cell} (h : (List.map (rowCells spanRow) l)[i]? = some L) : ∃ p, l[i]? = some p ∧ rowCells spanRow p = L := map_els _ h

theorem sortSpan_ok : InpOk Try.prog 55 inpSortSpan := by
  refine ⟨fun args w => enters_of Try.func55 (by kernel_rfl) rfl args w, ?_⟩
  intro w v x y els xs A he hrow hx _ hy
  have he : some (List.map (rowCells spanRow) x) = some els := he
  have he := Option.some.inj he
  subst he
  have h1 : w.ownsRow 0 80 2 v (List.map (rowCells spanRow) x).length xs := hrow
  rw [show (List.map (rowCells spanRow) x).length = List.length (α := Int × Int) x from List.length_map _] at h1
  refine (sortSpan_run w v x y xs A h1 (fun i j p c hi hc => hx i j _ c (els_map (rowCells spanRow) hi) hc) hy).mono ?_
  rintro e w' ⟨rfl, hs, xs', ho, hr⟩
  refine ⟨rfl, hs, List.map (rowCells spanRow) y, xs', rfl, ?_, fun i j l c hi hj => ?_⟩
  · show w'.ownsRow 0 80 2 v (List.map (rowCells spanRow) y).length xs'
    rw [show (List.map (rowCells spanRow) y).length = List.length (α := Int × Int) y from List.length_map _]
    exact ho
  · obtain ⟨p, hp, rfl⟩ := span_els (l := y) hi
    match j with
    | 0 => cases hj; exact ⟨_, hr i 0 p _ hp rfl, .int _ _⟩
    | 1 => cases hj; exact ⟨_, hr i 1 p _ hp rfl, .int _ _⟩
    | j + 2 => simp [rowCells, spanRow] at hj

end Go.Proofs.Ytoifbdaaiejbnaa.D
/- What the program makes of a pattern: its positions. -/
namespace Go.Proofs.Ytoifbdaaiejbnaa.D
open Go

/- span.Norm -/
def mergeP (acc : List (Int × Int)) (s : Int × Int) : List (Int × Int) :=
  match acc with
  | [] => [s]
  | r :: o => if r.2 = 4294967295 ∨ s.1 ≤ IntKind.wrap .u32 (r.2 + 1) then (r.1, maxI r.2 s.2) :: o else s :: r :: o
noncomputable def sortP (l : List (Int × Int)) : List (Int × Int) := (sortSpan l).getD []
noncomputable def normP (l : List (Int × Int)) : List (Int × Int) := ((sortP (l.filter fun s => decide (s.1 ≤ s.2))).foldl mergeP []).reverse

theorem mergeP_in {q x : Int × Int} {o : List (Int × Int)} (h : q.2 = 4294967295 ∨ x.1 ≤ IntKind.wrap .u32 (q.2 + 1)) : (q.1, maxI q.2 x.2) :: o = mergeP (q :: o) x := (if_pos h).symm
theorem mergeP_out {q x : Int × Int} {o : List (Int × Int)} (h : ¬ (q.2 = 4294967295 ∨ x.1 ≤ IntKind.wrap .u32 (q.2 + 1))) : x :: q :: o = mergeP (q :: o) x := (if_neg h).symm
theorem mergeP_len (acc : List (Int × Int)) (s : Int × Int) : (mergeP acc s).length ≤ acc.length + 1 := by
  unfold mergeP
  split
  · exact Nat.le_refl _
  · split
    · exact Nat.le_succ _
    · exact Nat.le_refl _

theorem span_Norm.first (C : B0.Call) (l : List (Int × Int)) (hl : l.length < 1099511627776) (n : Nat) (Y : List (Int × Int))
    (hY : ∀ m, n ≤ m → Option.bind (sortSpan (l.filter fun s => decide (s.1 ≤ s.2))) (fun r0 => span_Norm.l11 (span_Norm.R C m) [] r0 ((List.length r0) : Int) 0) = some Y) :
    ∀ (r : List (Int × Int)) (i j : Nat) (o : List (Int × Int)), l.drop i = r → r.length + n < j → o ++ r.filter (fun s => decide (s.1 ≤ s.2)) = l.filter (fun s => decide (s.1 ≤ s.2)) →
    span_Norm.l3 (span_Norm.R C j) o l l.length i = some Y := by
  intro r
  induction r with
  | nil =>
    intro i j o hr hj ho
    obtain ⟨m, rfl, hm⟩ := succ_of hj
    rw [span_Norm.s3, span_Norm.t3, dec_ge (drop_nil' hr), cond_false]
    rw [List.filter_nil, List.append_nil] at ho
    rw [ho]
    exact hY m (by simpa using hm)
  | cons x r ih =>
    intro i j o hr hj ho
    obtain ⟨m, rfl, hm⟩ := succ_of hj
    obtain ⟨h1, h2, h3⟩ := drop_cons' hr
    rw [List.length_cons] at hj
    have hol : o.length ≤ l.length := by
      have e := congrArg List.length ho
      rw [List.length_append] at e
      have := List.length_filter_le (fun s : Int × Int => decide (s.1 ≤ s.2)) l
      omega
    rw [span_Norm.s3, span_Norm.t3, dec_lt h1, cond_true, idx_nat, h2, Option.bind_some, wrapS i (by omega), room_ok (by simp; omega)]
    by_cases hx : x.1 ≤ x.2
    · rw [decide_eq_true hx]
      refine ih (i + 1) m (o ++ [x]) h3 (by omega) ?_
      rw [List.filter_cons, if_pos (decide_eq_true hx)] at ho
      rw [← ho, List.append_assoc]; rfl
    · rw [decide_eq_false hx]
      refine ih (i + 1) m o h3 (by omega) ?_
      rwa [List.filter_cons, if_neg (by simpa using hx)] at ho

theorem idx_last {α : Type} (o : List α) (r : α) : idx (o ++ [r]) (IntKind.wrap .i64 (((o ++ [r]).length : Int) - 1)) = if (o ++ [r]).length < 9223372036854775807 then some r else idx (o ++ [r]) (IntKind.wrap .i64 (((o ++ [r]).length : Int) - 1)) := by
  split
  · rename_i h
    rw [List.length_append] at h
    have h : o.length + 1 < 9223372036854775807 := h
    have e : IntKind.wrap .i64 (((o ++ [r]).length : Int) - 1) = (o.length : Int) := by
      rw [List.length_append]
      show IntKind.wrap .i64 (((o.length + 1 : Nat) : Int) - 1) = _
      rw [wrap64 (by omega) (by omega)]; omega
    rw [e, idx_nat, List.getElem?_append_right (Nat.le_refl _), Nat.sub_self]; rfl
  · rfl

theorem span_Norm.second (C : B0.Call) (l : List (Int × Int)) (hl : l.length < 1099511627776) :
    ∀ (r : List (Int × Int)) (i j : Nat) (acc : List (Int × Int)), l.drop i = r → r.length < j → acc.length + r.length ≤ l.length → span_Norm.l11 (span_Norm.R C j) acc.reverse l l.length i = some (r.foldl mergeP acc).reverse := by
  intro r
  induction r with
  | nil =>
    intro i j acc hr hj _
    obtain ⟨m, rfl, hm⟩ := succ_of hj
    rw [span_Norm.s11, span_Norm.t11, dec_ge (drop_nil' hr), cond_false]
    rfl
  | cons x r ih =>
    intro i j acc hr hj hacc
    obtain ⟨m, rfl, hm⟩ := succ_of hj
    obtain ⟨h1, h2, h3⟩ := drop_cons' hr
    rw [List.length_cons] at hj hacc
    have go : ∀ acc', acc' = mergeP acc x → span_Norm.l11 (span_Norm.R C m) acc'.reverse l l.length ((i + 1 : Nat) : Int) = some (List.foldl mergeP acc (x :: r)).reverse := by
      rintro _ rfl
      exact ih (i + 1) m (mergeP acc x) h3 (by omega) (by have := mergeP_len acc x; omega)
    rw [span_Norm.s11, span_Norm.t11, dec_lt h1, cond_true, inB_ok (by omega) (by omega), cond_true, idx_nat, h2, Option.bind_some, wrapS i (by omega)]
    cases acc with
    | nil =>
      rw [room_ok (by simp)]
      exact go [x] rfl
    | cons q o =>
      have el : (q :: o).reverse = o.reverse ++ [q] := List.reverse_cons
      have hlen : (o.reverse ++ [q]).length < 9223372036854775807 := by rw [List.length_append, List.length_reverse]; rw [List.length_cons] at hacc; show o.length + 1 < _; omega
      have hlen' : o.reverse.length + 1 < 9223372036854775807 := by rw [List.length_append] at hlen; exact hlen
      have ei := idx_last o.reverse q
      rw [if_pos hlen] at ei
      have ew : IntKind.wrap .i64 (((o.reverse ++ [q]).length : Int) - 1) = (o.reverse.length : Int) := by
        rw [List.length_append]
        show IntKind.wrap .i64 (((o.reverse.length + 1 : Nat) : Int) - 1) = _
        rw [wrap64 (by omega) (by omega)]; omega
      have eb : inB (o.reverse ++ [q]).length (IntKind.wrap .i64 (((o.reverse ++ [q]).length : Int) - 1)) = true := by
        rw [ew]
        exact inB_ok (by omega) (by rw [List.length_append]; show ((o.reverse.length : Nat) : Int) < ((o.reverse.length + 1 : Nat) : Int); omega)
      have es : ∀ z : Int × Int, List.set (o.reverse ++ [q]) (Int.toNat (IntKind.wrap .i64 (((o.reverse ++ [q]).length : Int) - 1))) z = (z :: o).reverse := fun z => by
        rw [ew, Int.toNat_natCast, List.set_append_right _ _ (Nat.le_refl _), Nat.sub_self, List.reverse_cons]; rfl
      have epos : decide ((((o.reverse ++ [q]).length : Nat) : Int) > 0) = true := decide_eq_true (by rw [List.length_append]; show ((o.reverse.length + 1 : Nat) : Int) > 0; omega)
      rw [el, epos, cond_true, eb, cond_true, ei, Option.bind_some, cond_true, cond_true, Option.bind_some, Option.bind_some, Option.bind_some, es, cond_true]
      by_cases hq : q.2 = 4294967295
      · have e1 : (q.2 == 4294967295) = true := by simp [hq]
        rw [e1, cond_true]
        exact go _ (mergeP_in (Or.inl hq))
      · have e1 : (q.2 == 4294967295) = false := by simp [hq]
        rw [e1, cond_false]
        by_cases hw : x.1 ≤ IntKind.wrap .u32 (q.2 + 1)
        · rw [decide_eq_true hw, cond_true]
          exact go _ (mergeP_in (Or.inr hw))
        · rw [decide_eq_false hw, cond_false, room_ok (by rw [List.length_append, List.length_reverse]; rw [List.length_cons] at hacc; simp; omega)]
          refine (congrArg (fun z => span_Norm.l11 (span_Norm.R C m) z l l.length ((i + 1 : Nat) : Int)) ?_).trans (go (x :: q :: o) (mergeP_out (by rintro (h | h) <;> contradiction)))
          rw [List.reverse_cons, el]

theorem span_Norm.spec (l : List (Int × Int)) (hl : l.length < 549755813888) (k : Nat) (hk : 3 * l.length + 3 < k) : span_Norm.C (B0.call (k + 1)) l = some (normP l) := by
  rw [span_Norm.s, span_Norm.t]
  have hf := List.length_filter_le (fun s : Int × Int => decide (s.1 ≤ s.2)) l
  obtain ⟨r, hr⟩ := sortSpan_some (l.filter fun s => decide (s.1 ≤ s.2)) (by omega)
  have hrl := (sortSpan_sorts hr).1.length_eq
  refine span_Norm.first (B0.call k) l (by omega) (l.length + 1) (normP l) (fun m hm => ?_) l 0 k [] List.drop_zero (by omega) rfl
  rw [hr, Option.bind_some]
  refine (span_Norm.second (B0.call k) r (by omega) r 0 m [] List.drop_zero (by omega) (by simp)).trans ?_
  unfold normP sortP
  rw [hr]; rfl

end Go.Proofs.Ytoifbdaaiejbnaa.D
/- What part, cat and chain make of a pattern: plain words, and that they do. -/
namespace Go.Proofs.Ytoifbdaaiejbnaa.D
open Go

abbrev Sets := List (List (Int × Int))
abbrev Told := Bool × List Int × List Int

def chainP (F : List (List Int)) (last first : List Int) : List (List Int) := last.foldl (fun F k => F.set k.toNat (withL (F.getD k.toNat []) first)) F
def catT (a b : Told) : Told := (a.1 && b.1, bif a.1 then withL a.2.1 b.2.1 else a.2.1, bif b.1 then withL a.2.2 b.2.2 else b.2.2)
def altT (a b : Told) : Told := (a.1 || b.1, withL a.2.1 b.2.1, withL a.2.2 b.2.2)

mutual
noncomputable def partP : Pat → Sets → List (List Int) → Told × Sets × List (List Int)
  | .mk k s l, S, F => if k = 1 then ((false, [(S.length : Int)], [(S.length : Int)]), S ++ [normP s], F ++ [[]]) else if k = 2 then catP l (true, [], []) S F else if k = 3 then altP l (false, [], []) S F else starP l S F
noncomputable def catP : List Pat → Told → Sets → List (List Int) → Told × Sets × List (List Int)
  | [], o, S, F => (o, S, F)
  | p :: l, o, S, F => catP l (catT o (partP p S F).1) (partP p S F).2.1 (chainP (partP p S F).2.2 o.2.2 (partP p S F).1.2.1)
noncomputable def altP : List Pat → Told → Sets → List (List Int) → Told × Sets × List (List Int)
  | [], o, S, F => (o, S, F)
  | p :: l, o, S, F => altP l (altT o (partP p S F).1) (partP p S F).2.1 (partP p S F).2.2
noncomputable def starP : List Pat → Sets → List (List Int) → Told × Sets × List (List Int)
  | [], S, F => ((true, [], []), S, F)
  | p :: _, S, F => ((true, (partP p S F).1.2), (partP p S F).2.1, chainP (partP p S F).2.2 (partP p S F).1.2.2 (partP p S F).1.2.1)
end

/- what stays so -/
def GoodL (n : Nat) (l : List Int) : Prop := Rise l ∧ ∀ x ∈ l, 0 ≤ x ∧ x < n
def GoodF (n : Nat) (F : List (List Int)) : Prop := F.length = n ∧ ∀ g ∈ F, GoodL n g
structure GoodP (n m : Nat) (r : Told × Sets × List (List Int)) : Prop where
  le : n ≤ r.2.1.length
  most : r.2.1.length ≤ m
  fol : GoodF r.2.1.length r.2.2
  first : GoodL r.2.1.length r.1.2.1
  last : GoodL r.2.1.length r.1.2.2

theorem GoodL.mono {n m : Nat} {l : List Int} (h : GoodL n l) (hm : n ≤ m) : GoodL m l := ⟨h.1, fun x hx => ⟨(h.2 x hx).1, by have := (h.2 x hx).2; omega⟩⟩
theorem GoodL.nil (n : Nat) : GoodL n [] := ⟨List.Pairwise.nil, fun x h => by cases h⟩
theorem GoodL.len {n : Nat} {l : List Int} (h : GoodL n l) : l.length ≤ n := rise_len h.1 h.2
theorem GoodL.with {n : Nat} {l m : List Int} (h : GoodL n l) (h2 : GoodL n m) : GoodL n (withL l m) :=
  ⟨withL_rise m l h.1, fun x hx => ((withL_mem m l x).mp hx).elim (h.2 x) (h2.2 x)⟩

theorem set_good {n : Nat} {F : List (List Int)} {g : List Int} (i : Nat) (h : GoodF n F) (hg : GoodL n g) : GoodF n (F.set i g) := by
  refine ⟨by rw [List.length_set]; exact h.1, fun x hx => ?_⟩
  rcases List.mem_or_eq_of_mem_set hx with hx | rfl
  · exact h.2 x hx
  · exact hg
theorem getD_good {n : Nat} {F : List (List Int)} (h : GoodF n F) (i : Nat) : GoodL n (F.getD i []) := by
  rw [List.getD_eq_getElem?_getD]
  cases hi : F[i]? with
  | none => exact GoodL.nil n
  | some g => exact h.2 g (List.mem_of_getElem? hi)
theorem chainP_good {n : Nat} {first : List Int} (hf : GoodL n first) : ∀ (last : List Int) (F : List (List Int)), GoodF n F → GoodF n (chainP F last first)
  | [], F, h => h
  | k :: last, F, h => chainP_good hf last _ (set_good _ h ((getD_good h _).with hf))

theorem snoc_good {n : Nat} {F : List (List Int)} (h : GoodF n F) : GoodF (n + 1) (F ++ [[]]) := by
  refine ⟨by rw [List.length_append, h.1]; rfl, fun g hg => ?_⟩
  rcases List.mem_append.mp hg with hg | hg
  · exact (h.2 g hg).mono (Nat.le_succ n)
  · rw [List.mem_singleton.mp hg]; exact GoodL.nil _

theorem catT_first {n : Nat} {a b : Told} (h1 : GoodL n a.2.1) (h2 : GoodL n b.2.1) : GoodL n (catT a b).2.1 := by
  obtain ⟨a0, a1, a2⟩ := a
  cases a0 with
  | false => exact h1
  | true => exact h1.with h2
theorem catT_last {n : Nat} {a b : Told} (h1 : GoodL n a.2.2) (h2 : GoodL n b.2.2) : GoodL n (catT a b).2.2 := by
  obtain ⟨b0, b1, b2⟩ := b
  cases b0 with
  | false => exact h2
  | true => exact h1.with h2

theorem catP_good : ∀ (l : List Pat) (hl : ∀ p ∈ l, ∀ S F, GoodF S.length F → GoodP S.length (S.length + p.parts) (partP p S F)) (o : Told) (S : Sets) (F : List (List Int)), GoodF S.length F → GoodL S.length o.2.1 → GoodL S.length o.2.2 →
    GoodP S.length (S.length + Pat.partsL l) (catP l o S F)
  | [], _, o, S, F, hF, h1, h2 => ⟨Nat.le_refl _, Nat.le_add_right _ _, hF, h1, h2⟩
  | p :: l, hl, o, S, F, hF, h1, h2 => by
    have hp := hl p List.mem_cons_self S F hF
    have h1' := h1.mono hp.le
    have h2' := h2.mono hp.le
    have r := catP_good l (fun q hq => hl q (List.mem_cons_of_mem _ hq)) (catT o (partP p S F).1) (partP p S F).2.1 (chainP (partP p S F).2.2 o.2.2 (partP p S F).1.2.1) (chainP_good hp.first _ _ hp.fol)
      (catT_first h1' hp.first) (catT_last h2' hp.last)
    have a := hp.le
    have b := hp.most
    have c := r.most
    rw [Pat.partsL]
    exact ⟨Nat.le_trans a r.le, by rw [catP]; omega, by rw [catP]; exact r.fol, by rw [catP]; exact r.first, by rw [catP]; exact r.last⟩

theorem altP_good : ∀ (l : List Pat) (hl : ∀ p ∈ l, ∀ S F, GoodF S.length F → GoodP S.length (S.length + p.parts) (partP p S F)) (o : Told) (S : Sets) (F : List (List Int)), GoodF S.length F → GoodL S.length o.2.1 → GoodL S.length o.2.2 →
    GoodP S.length (S.length + Pat.partsL l) (altP l o S F)
  | [], _, o, S, F, hF, h1, h2 => ⟨Nat.le_refl _, Nat.le_add_right _ _, hF, h1, h2⟩
  | p :: l, hl, o, S, F, hF, h1, h2 => by
    have hp := hl p List.mem_cons_self S F hF
    have h1' := h1.mono hp.le
    have h2' := h2.mono hp.le
    have r := altP_good l (fun q hq => hl q (List.mem_cons_of_mem _ hq)) (altT o (partP p S F).1) (partP p S F).2.1 (partP p S F).2.2 hp.fol (h1'.with hp.first) (h2'.with hp.last)
    have a := hp.le
    have b := hp.most
    have c := r.most
    rw [Pat.partsL]
    exact ⟨Nat.le_trans a r.le, by rw [altP]; omega, by rw [altP]; exact r.fol, by rw [altP]; exact r.first, by rw [altP]; exact r.last⟩

theorem one_good {n : Nat} : GoodL (n + 1) [(n : Int)] := ⟨List.pairwise_singleton _ _, fun x hx => by rw [List.mem_singleton.mp hx]; omega⟩

theorem partP_eq (p : Pat) (S : Sets) (F : List (List Int)) : partP p S F = if p.kind = 1 then ((false, [(S.length : Int)], [(S.length : Int)]), S ++ [normP p.set], F ++ [[]]) else if p.kind = 2 then catP p.subs (true, [], []) S F else if p.kind = 3 then altP p.subs (false, [], []) S F else starP p.subs S F := by
  cases p; rw [partP]; rfl

theorem partP_good (p : Pat) : ∀ S F, GoodF S.length F → GoodP S.length (S.length + p.parts) (partP p S F) := by
  refine Pat.induct (motive := fun p => ∀ S F, GoodF S.length F → GoodP S.length (S.length + p.parts) (partP p S F)) (fun p ih => ?_) p
  intro S F hF
  rw [partP_eq, p.parts_eq]
  split
  · have e : (S ++ [normP p.set]).length = S.length + 1 := by rw [List.length_append]; rfl
    exact ⟨by show _ ≤ (S ++ [normP p.set]).length; omega, by show (S ++ [normP p.set]).length ≤ _; omega, by show GoodF (S ++ [normP p.set]).length _; rw [e]; exact snoc_good hF, by show GoodL (S ++ [normP p.set]).length _; rw [e]; exact one_good, by show GoodL (S ++ [normP p.set]).length _; rw [e]; exact one_good⟩
  · split
    · have r := catP_good p.subs ih (true, [], []) S F hF (GoodL.nil _) (GoodL.nil _)
      exact ⟨r.le, by have := r.most; omega, r.fol, r.first, r.last⟩
    · split
      · have r := altP_good p.subs ih (false, [], []) S F hF (GoodL.nil _) (GoodL.nil _)
        exact ⟨r.le, by have := r.most; omega, r.fol, r.first, r.last⟩
      · cases hs : p.subs with
        | nil => rw [starP]; exact ⟨Nat.le_refl _, Nat.le_add_right _ _, hF, GoodL.nil _, GoodL.nil _⟩
        | cons q l =>
          have r := ih q (by rw [hs]; exact List.mem_cons_self) S F hF
          rw [starP, Pat.partsL]
          exact ⟨r.le, by have := r.most; show (partP q S F).2.1.length ≤ _; omega, chainP_good r.first _ _ r.fol, r.first, r.last⟩

/- the program's own -/
structure PartF (C : B0.Call) : Prop where
  with_ : ∀ l more, l.length < 274877906944 → more.length < 274877906944 → Rise l → pos_with.C C l more = some (withL l more)

theorem chain.loop {C : B0.Call} (hC : PartF C) (S : Sets) (e : Bool) (f l : List Int) (first last : List Int) (n : Nat) (hn : n < 274877906944) (hf : GoodL n first) (hl : ∀ x ∈ last, 0 ≤ x ∧ x < n) (hll : last.length < 274877906944) :
    ∀ (r : List Int) (i j : Nat) (F : List (List Int)), last.drop i = r → r.length < j → GoodF n F → pos_maker_chain.l1 (pos_maker_chain.R C j) S e f l F first last last.length i = some (S, e, f, l, chainP F r first) := by
  intro r
  induction r with
  | nil =>
    intro i j F hr hj hF
    obtain ⟨m, rfl, hm⟩ := succ_of hj
    rw [pos_maker_chain.s1, pos_maker_chain.t1, dec_ge (drop_nil' hr), cond_false]
    rfl
  | cons x r ih =>
    intro i j F hr hj hF
    obtain ⟨m, rfl, hm⟩ := succ_of hj
    obtain ⟨h1, h2, h3⟩ := drop_cons' hr
    rw [List.length_cons] at hj
    have hx := hl x (List.mem_of_getElem? h2)
    obtain ⟨y, rfl⟩ : ∃ y : Nat, x = (y : Int) := ⟨x.toNat, (Int.toNat_of_nonneg hx.1).symm⟩
    have hy : y < F.length := by rw [hF.1]; omega
    have hb : inB F.length (y : Int) = true := inB_ok (by omega) (by omega)
    have hg := hF.2 F[y] (List.getElem_mem hy)
    have hgl := hg.len
    have hfl := hf.len
    rw [pos_maker_chain.s1, pos_maker_chain.t1, dec_lt h1, cond_true, idx_nat, h2, Option.bind_some, hb, cond_true, idx_nat, List.getElem?_eq_getElem hy, Option.bind_some, hC.with_ _ _ (by omega) (by omega) hg.1, Option.bind_some, cond_true, Option.bind_some, wrapS i (by omega)]
    refine (ih (i + 1) m _ h3 (by omega) (set_good _ hF (hg.with hf))).trans ?_
    show some (S, e, f, l, chainP (F.set ((y : Int).toNat) (withL F[y] first)) r first) = some (S, e, f, l, chainP (F.set ((y : Int).toNat) (withL (F.getD ((y : Int).toNat) []) first)) r first)
    rw [Int.toNat_natCast, List.getD_eq_getElem?_getD, List.getElem?_eq_getElem hy]; rfl

theorem chain.spec {k : Nat} (hC : PartF (B0.call k)) (S : Sets) (e : Bool) (f l : List Int) (F : List (List Int)) (first last : List Int) (n : Nat) (hn : n < 274877906944) (hf : GoodL n first) (hl : GoodL n last) (hF : GoodF n F) (hk : n < k) :
    pos_maker_chain.C (B0.call (k + 1)) S e f l F last first = some (S, e, f, l, chainP F last first) := by
  rw [pos_maker_chain.s, pos_maker_chain.t]
  have := hl.len
  exact chain.loop hC S e f l first last n hn hf hl.2 (by omega) last 0 k F List.drop_zero (by omega) hF

theorem cat.spec {k : Nat} (hC : PartF (B0.call k)) (hC2 : PartF (B0.call (k + 1))) (S : Sets) (e : Bool) (f l : List Int) (F : List (List Int)) (a b : Told) (n : Nat) (hn : n < 274877906944) (h1 : GoodL n a.2.1) (h2 : GoodL n a.2.2) (h3 : GoodL n b.2.1) (h4 : GoodL n b.2.2) (hF : GoodF n F) (hk : n < k) :
    pos_maker_cat.C (B0.call (k + 2)) S e f l F a.1 a.2.1 a.2.2 b.1 b.2.1 b.2.2 = some ((catT a b).1, (catT a b).2.1, (catT a b).2.2, S, e, f, l, chainP F a.2.2 b.2.1) := by
  obtain ⟨a0, a1, a2⟩ := a
  obtain ⟨b0, b1, b2⟩ := b
  have l1 : a1.length ≤ n := h1.len
  have l2 : a2.length ≤ n := h2.len
  have l3 : b1.length ≤ n := h3.len
  have l4 : b2.length ≤ n := h4.len
  rw [pos_maker_cat.s, pos_maker_cat.t, chain.spec hC S e f l F b1 a2 n hn h3 h2 hF hk, Option.bind_some, hC2.with_ a1 b1 (by show a1.length < _; omega) (by show b1.length < _; omega) h1.1, hC2.with_ a2 b2 (by show a2.length < _; omega) (by show b2.length < _; omega) h2.1]
  cases a0 <;> cases b0 <;> rfl

def outP (e : Bool) (f l : List Int) (r : Told × Sets × List (List Int)) : Bool × List Int × List Int × Sets × Bool × List Int × List Int × List (List Int) := (r.1.1, r.1.2.1, r.1.2.2, r.2.1, e, f, l, r.2.2)

def PartOk (C : B0.Call) (q : Pat) : Prop := ∀ (S : Sets) (e : Bool) (f l : List Int) (F : List (List Int)), GoodF S.length F → S.length + q.parts ≤ 10000 → pos_maker_part.C C S e f l F q.kind q.set q.subs = some (outP e f l (partP q S F))

theorem cat.loop {k : Nat} (hC : PartF (B0.call k)) (hC2 : PartF (B0.call (k + 1))) (hk : 10000 < k) (ps : List Pat) (hps : ps.length < 9223372036854775807) (h : ∀ q ∈ ps, PartOk (B0.call (k + 2)) q) (e : Bool) (f l : List Int) (x : Bool) (y z : List Int) :
    ∀ (r : List Pat) (i j : Nat) (o : Told) (S : Sets) (F : List (List Int)), ps.drop i = r → r.length < j → GoodF S.length F → GoodL S.length o.2.1 → GoodL S.length o.2.2 → S.length + Pat.partsL r ≤ 10000 →
      pos_maker_part.l10 (pos_maker_part.R (B0.call (k + 2)) j) S e f l F x y z o.1 o.2.1 o.2.2 ps ps.length i = some (outP e f l (catP r o S F)) := by
  intro r
  induction r with
  | nil =>
    intro i j o S F hr hj hF h1 h2 hs
    obtain ⟨m, rfl, hm⟩ := succ_of hj
    rw [pos_maker_part.s10, pos_maker_part.t10, dec_ge (drop_nil' hr), cond_false, catP]
    rfl
  | cons p r ih =>
    intro i j o S F hr hj hF h1 h2 hs
    obtain ⟨m, rfl, hm⟩ := succ_of hj
    obtain ⟨g1, g2, g3⟩ := drop_cons' hr
    rw [List.length_cons] at hj
    rw [Pat.partsL] at hs
    have hp := partP_good p S F hF
    have hle := hp.le
    have hmo := hp.most
    rw [pos_maker_part.s10, pos_maker_part.t10, dec_lt g1, cond_true, idx_nat, g2, Option.bind_some, h p (List.mem_of_getElem? g2) S e f l F hF (by omega), Option.bind_some]
    have hc := cat.spec hC hC2 (partP p S F).2.1 e f l (partP p S F).2.2 o (partP p S F).1 (partP p S F).2.1.length (by omega) (h1.mono hle) (h2.mono hle) hp.first hp.last hp.fol (by omega)
    have hc : pos_maker_cat.C (B0.call (k + 2)) (outP e f l (partP p S F)).2.2.2.1 (outP e f l (partP p S F)).2.2.2.2.1 (outP e f l (partP p S F)).2.2.2.2.2.1 (outP e f l (partP p S F)).2.2.2.2.2.2.1 (outP e f l (partP p S F)).2.2.2.2.2.2.2 o.1 o.2.1 o.2.2 (outP e f l (partP p S F)).1 (outP e f l (partP p S F)).2.1 (outP e f l (partP p S F)).2.2.1 = _ := hc
    rw [hc, Option.bind_some, wrapS i (by omega), catP]
    exact ih (i + 1) m (catT o (partP p S F).1) (partP p S F).2.1 (chainP (partP p S F).2.2 o.2.2 (partP p S F).1.2.1) g3 (by omega) (chainP_good hp.first _ _ hp.fol) (catT_first (h1.mono hle) hp.first) (catT_last (h2.mono hle) hp.last) (by omega)

theorem alt.loop {k : Nat} (hC : PartF (B0.call k)) (ps : List Pat) (hps : ps.length < 9223372036854775807) (h : ∀ q ∈ ps, PartOk (B0.call k) q) (e : Bool) (f l : List Int) (x : Bool) (y z : List Int) :
    ∀ (r : List Pat) (i j : Nat) (o : Told) (S : Sets) (F : List (List Int)), ps.drop i = r → r.length < j → GoodF S.length F → GoodL S.length o.2.1 → GoodL S.length o.2.2 → S.length + Pat.partsL r ≤ 10000 →
      pos_maker_part.l18 (pos_maker_part.R (B0.call k) j) S e f l F x y z o.1 o.2.1 o.2.2 ps ps.length i = some (outP e f l (altP r o S F)) := by
  intro r
  induction r with
  | nil =>
    intro i j o S F hr hj hF h1 h2 hs
    obtain ⟨m, rfl, hm⟩ := succ_of hj
    rw [pos_maker_part.s18, pos_maker_part.t18, dec_ge (drop_nil' hr), cond_false, altP]
    rfl
  | cons p r ih =>
    intro i j o S F hr hj hF h1 h2 hs
    obtain ⟨m, rfl, hm⟩ := succ_of hj
    obtain ⟨g1, g2, g3⟩ := drop_cons' hr
    rw [List.length_cons] at hj
    rw [Pat.partsL] at hs
    have hp := partP_good p S F hF
    have hle := hp.le
    have hmo := hp.most
    have h1' := h1.mono hle
    have h2' := h2.mono hle
    have a1 := h1'.len
    have a2 := h2'.len
    have a3 := hp.first.len
    have a4 := hp.last.len
    have key := ih (i + 1) m (altT o (partP p S F).1) (partP p S F).2.1 (partP p S F).2.2 g3 (by omega) hp.fol (h1'.with hp.first) (h2'.with hp.last) (by omega)
    have w1 : pos_with.C (B0.call k) o.2.1 (outP e f l (partP p S F)).2.1 = some (withL o.2.1 (partP p S F).1.2.1) := hC.with_ _ _ (by omega) (by show (partP p S F).1.2.1.length < _; omega) h1.1
    have w2 : pos_with.C (B0.call k) o.2.2 (outP e f l (partP p S F)).2.2.1 = some (withL o.2.2 (partP p S F).1.2.2) := hC.with_ _ _ (by omega) (by show (partP p S F).1.2.2.length < _; omega) h2.1
    rw [pos_maker_part.s18, pos_maker_part.t18, dec_lt g1, cond_true, idx_nat, g2, Option.bind_some, h p (List.mem_of_getElem? g2) S e f l F hF (by omega), Option.bind_some, w1, w2, wrapS i (by omega), altP]
    obtain ⟨o0, o1, o2⟩ := o
    cases o0 with
    | false => exact key
    | true => exact key

structure NormF (C : B0.Call) : Prop where
  norm : ∀ s, s.length ≤ 256 → span_Norm.C C s = some (normP s)

theorem partF_ok (k : Nat) (hk : 1099511627776 + 3 < k) : PartF (B0.call (k + 1)) := ⟨fun l m h1 h2 h3 => pos_with.spec l m k hk h1 h2 h3⟩
theorem normF_ok (k : Nat) (hk : 1000 < k) : NormF (B0.call (k + 1)) := ⟨fun s hs => span_Norm.spec s (by omega) k (by omega)⟩

theorem fits_sub {p : Pat} (h : p.fits = true) : ∀ q ∈ p.subs, q.fits = true := by
  intro q hq
  rw [p.fits_eq] at h
  split at h
  · have h1 : p.subs.length = 0 := by
      have := (Bool.and_eq_true _ _).mp h
      simpa using this.1
    rw [List.eq_nil_of_length_eq_zero h1] at hq
    cases hq
  · split at h
    · have := (Bool.and_eq_true _ _).mp h
      rw [Pat.fitsL_all] at this
      exact List.all_eq_true.mp this.2 q hq
    · cases h

theorem part.spec : ∀ (n : Nat) (p : Pat) (k : Nat), p.parts ≤ n → p.fits = true → 2199023255552 + 8 * n < k → PartOk (B0.call k) p := by
  intro n
  induction n with
  | zero => intro p k h; have := p.parts_pos; omega
  | succ n ih =>
    intro p k hp hfit hk S e f l F hF hs
    obtain ⟨k, rfl⟩ : ∃ m, k = m + 4 := ⟨k - 4, by omega⟩
    have hsub : ∀ q ∈ p.subs, PartOk (B0.call (k + 3)) q := fun q hq => ih q (k + 3) (by have := Pat.parts_sub hq; omega) (fits_sub hfit q hq) (by omega)
    have e1 := p.parts_eq
    have e2 := Pat.partsL_len p.subs
    have hL := hF.1
    have f1 := partF_ok k (by omega)
    have f2 := partF_ok (k + 1) (by omega)
    have f3 := partF_ok (k + 2) (by omega)
    rw [pos_maker_part.s, pos_maker_part.t, partP_eq]
    by_cases k1 : p.kind = 1
    · have hset : p.set.length ≤ 256 := by
        rw [p.fits_eq, if_pos k1] at hfit
        have := (Bool.and_eq_true _ _).mp hfit
        simpa using this.2
      rw [show (p.kind == 1) = true from by simp [k1], cond_true, (normF_ok (k + 2) (by omega)).norm p.set hset, Option.bind_some, if_pos k1, room_ok (by show (S.length + 1) * 24 < _; omega), room_ok (by omega)]
      rfl
    · rw [show (p.kind == 1) = false from by simp [k1], cond_false, if_neg k1]
      by_cases k2 : p.kind = 2
      · rw [show (p.kind == 2) = true from by simp [k2], cond_true, if_pos k2]
        exact cat.loop (k := k + 1) f1 f2 (by omega) p.subs (by omega) hsub e f l false [] [] p.subs 0 (k + 3) (true, [], []) S F List.drop_zero (by omega) hF (GoodL.nil _) (GoodL.nil _) (by omega)
      · rw [show (p.kind == 2) = false from by simp [k2], cond_false, if_neg k2]
        by_cases k3 : p.kind = 3
        · rw [show (p.kind == 3) = true from by simp [k3], cond_true, if_pos k3]
          exact alt.loop (k := k + 3) f3 p.subs (by omega) hsub e f l false [] [] p.subs 0 (k + 3) (false, [], []) S F List.drop_zero (by omega) hF (GoodL.nil _) (GoodL.nil _) (by omega)
        · rw [show (p.kind == 3) = false from by simp [k3], cond_false, if_neg k3]
          have hone : ∃ q, p.subs = [q] := by
            rw [p.fits_eq, if_neg k1] at hfit
            split at hfit
            · rename_i hk4
              have k4 : p.kind = 4 := by omega
              have h5 := (Bool.and_eq_true _ _).mp hfit
              have h6 := ((Bool.and_eq_true _ _).mp h5.1).2
              have h7 : p.subs.length = 1 := by simpa [k4] using h6
              match h8 : p.subs, h7 with
              | [q], _ => exact ⟨q, rfl⟩
            · cases hfit
          obtain ⟨q, hq⟩ := hone
          have hqs := hsub q (by rw [hq]; exact List.mem_cons_self) S e f l F hF (by have := Pat.parts_sub (p := p) (q := q) (by rw [hq]; exact List.mem_cons_self); omega)
          have hg := partP_good q S F hF
          have hmo := hg.most
          have hpa := Pat.parts_sub (p := p) (q := q) (by rw [hq]; exact List.mem_cons_self)
          rw [hq, idx_zero]
          show Option.bind (some q) _ = _
          rw [Option.bind_some, hqs, Option.bind_some]
          have hc := chain.spec (k := k + 2) f2 (partP q S F).2.1 e f l (partP q S F).2.2 (partP q S F).1.2.1 (partP q S F).1.2.2 (partP q S F).2.1.length (by omega) hg.first hg.last hg.fol (by omega)
          have hc : pos_maker_chain.C (B0.call (k + 3)) (outP e f l (partP q S F)).2.2.2.1 (outP e f l (partP q S F)).2.2.2.2.1 (outP e f l (partP q S F)).2.2.2.2.2.1 (outP e f l (partP q S F)).2.2.2.2.2.2.1 (outP e f l (partP q S F)).2.2.2.2.2.2.2 (outP e f l (partP q S F)).2.2.1 (outP e f l (partP q S F)).2.1 = _ := hc
          rw [hc, Option.bind_some, starP]
          rfl

/- pos.Of -/
theorem pos_Of.right (p : Pat) (hr : p.right = true) (k : Nat) (hk : 2199023255552 + 8 * 200 < k) :
    pos_Of.C (B0.call (k + 1)) p.kind p.set p.subs = some ((partP p [] []).2.1, (partP p [] []).1.1, (partP p [] []).1.2.1, (partP p [] []).1.2.2, (partP p [] []).2.2, 0) := by
  have h1 := (Bool.and_eq_true _ _).mp hr
  have h2 := (Bool.and_eq_true _ _).mp h1.1
  have hpa : p.parts ≤ 200 := of_decide_eq_true h2.1
  have hg := partP_good p [] [] ⟨rfl, fun g hg => by cases hg⟩
  have hmo : (partP p [] []).2.1.length ≤ 0 + p.parts := hg.most
  have l1 := hg.first.len
  have l2 := hg.last.len
  obtain ⟨m, rfl⟩ : ∃ m, k = m + 1 := ⟨k - 1, by omega⟩
  rw [pos_Of.s, pos_Of.t, pat_Right.specP p (m + 1) (by omega) (by omega), Option.bind_some, hr]
  have hp := part.spec p.parts p (m + 1) (Nat.le_refl _) h1.2 (by omega) [] false [] [] [] ⟨rfl, fun g hg => by cases hg⟩ (by show 0 + p.parts ≤ _; omega)
  rw [Bool.not_true, cond_false, hp, Option.bind_some]
  have c1 : slices_Clone_int_int.C (B0.call (m + 1)) (outP false [] [] (partP p [] [])).2.1 = some (partP p [] []).1.2.1 := clone_int m _ (by show (partP p [] []).1.2.1.length < _; omega)
  have c2 : slices_Clone_int_int.C (B0.call (m + 1)) (outP false [] [] (partP p [] [])).2.2.1 = some (partP p [] []).1.2.2 := clone_int m _ (by show (partP p [] []).1.2.2.length < _; omega)
  rw [c1, c2]
  simp only [Option.bind_some, outP]

end Go.Proofs.Ytoifbdaaiejbnaa.D
/- The law PosStars: a Star's positions by its part's. -/
namespace Go.Proofs.Ytoifbdaaiejbnaa.D
open Go

theorem chainP_at (first : List Int) : ∀ (last : List Int) (F : List (List Int)), (chainP F last first).length = F.length ∧ ((∀ x ∈ last, 0 ≤ x) → ∀ (i : Nat) g, F[i]? = some g →
    ∃ g', (chainP F last first)[i]? = some g' ∧ (∀ x ∈ g, x ∈ g') ∧ ((i : Int) ∈ last → ∀ x ∈ first, x ∈ g') ∧ ((i : Int) ∉ last → g' = g))
  | [], F => ⟨rfl, fun _ i g h => ⟨g, h, fun _ hx => hx, (fun hi => by cases hi), fun _ => rfl⟩⟩
  | k :: last, F => by
    obtain ⟨h1, h2⟩ := chainP_at first last (F.set k.toNat (withL (F.getD k.toNat []) first))
    refine ⟨h1.trans (List.length_set ..), fun hn i g hg => ?_⟩
    have hk := hn k List.mem_cons_self
    have hn' : ∀ x ∈ last, 0 ≤ x := fun x hx => hn x (List.mem_cons_of_mem _ hx)
    by_cases e : i = k.toNat
    · subst e
      have hlt := (List.getElem?_eq_some_iff.1 hg).1
      have e2 : F.getD k.toNat [] = g := by rw [List.getD_eq_getElem?_getD, hg]; rfl
      obtain ⟨g', a, b, c, d⟩ := h2 hn' k.toNat (withL g first) (by rw [e2, List.getElem?_set_self hlt])
      refine ⟨g', a, fun x hx => b x ((withL_mem _ _ _).mpr (Or.inl hx)), fun _ x hx => b x ((withL_mem _ _ _).mpr (Or.inr hx)), fun hni => ?_⟩
      exact absurd (List.mem_cons.mpr (Or.inl (Int.toNat_of_nonneg hk))) hni
    · obtain ⟨g', a, b, c, d⟩ := h2 hn' i g (by rw [List.getElem?_set_ne (fun h => e h.symm)]; exact hg)
      refine ⟨g', a, b, fun hi => ?_, fun hni => d fun h => hni (List.mem_cons_of_mem _ h)⟩
      rcases List.mem_cons.mp hi with h | h
      · exact absurd (by rw [← h]; rfl) e
      · exact c h

theorem ref08_Ints.loop (C : B0.Call) (a : List Int) (hl : a.length < 9223372036854775807) : ∀ (r : List Int) (i j : Nat), a.drop i = r → r.length < j → ref08_Ints.l4 (ref08_Ints.R C j) a a a.length i = some true := by
  intro r
  induction r with
  | nil =>
    intro i j hr hj
    obtain ⟨m, rfl, hm⟩ := succ_of hj
    rw [ref08_Ints.s4, ref08_Ints.t4, dec_ge (drop_nil' hr), cond_false]
  | cons x r ih =>
    intro i j hr hj
    obtain ⟨m, rfl, hm⟩ := succ_of hj
    obtain ⟨h1, h2, h3⟩ := drop_cons' hr
    rw [List.length_cons] at hj
    rw [ref08_Ints.s4, ref08_Ints.t4, dec_lt h1, cond_true, idx_nat, h2, Option.bind_some, Option.bind_some, wrapS i (by omega), show (x != x) = false from by simp, cond_false]
    exact ih (i + 1) m h3 (by omega)

theorem ref08_Ints.refl (k : Nat) (a : List Int) (hl : a.length < 9223372036854775807) (hk : a.length < k) : ref08_Ints.C (B0.call (k + 1)) a a = some true := by
  rw [ref08_Ints.s, ref08_Ints.t, show (((List.length a) : Int) != ((List.length a) : Int)) = false from by simp, cond_false]
  exact ref08_Ints.loop (B0.call k) a hl a 0 k List.drop_zero hk

section
variable (C : B0.Call) (XS : List (List (Int × Int))) (xb : Bool) (xf xl : List Int) (XF : List (List Int)) (YS : List (List (Int × Int))) (yb : Bool) (yf yl : List Int) (YF : List (List Int))

theorem stars.l27 (i : Nat) (la : Bool) (kk : Int) (t78 : Int) (w : List Int) (tw : Int) (ti : Nat) (row : List Int) (hrow : row.length ≤ 200) (hti : ti < 1000) (N : Nat)
    (hN : ∀ m, N ≤ m → law08_PosStars.l23 (law08_PosStars.R C m) XS xb xf xl XF YS yb yf yl YF i la t78 i w tw ((ti + 1 : Nat) : Int) = some true) :
    ∀ (r : List Int) (a j : Nat) (fd : Bool), row.drop a = r → r.length + N < j → (fd = true ∨ kk ∈ r) →
      law08_PosStars.l27 (law08_PosStars.R C j) XS xb xf xl XF YS yb yf yl YF i la kk fd t78 i w tw ti row row.length a = some true := by
  intro r
  induction r with
  | nil =>
    intro a j fd hr hj hf
    obtain ⟨m, rfl, hm⟩ := succ_of hj
    have hf : fd = true := hf.elim id (fun h => by cases h)
    rw [law08_PosStars.s27, law08_PosStars.t27, dec_ge (drop_nil' hr), cond_false, hf, Bool.not_true, cond_false, wrapS ti (by omega)]
    exact hN m (by simpa using hm)
  | cons x r ih =>
    intro a j fd hr hj hf
    obtain ⟨m, rfl, hm⟩ := succ_of hj
    obtain ⟨h1, h2, h3⟩ := drop_cons' hr
    rw [List.length_cons] at hj
    rw [law08_PosStars.s27, law08_PosStars.t27, dec_lt h1, cond_true, idx_nat, h2, Option.bind_some, wrapS a (by omega)]
    cases fd with
    | true => rw [cond_true]; exact ih (a + 1) m true h3 (by omega) (Or.inl rfl)
    | false =>
      rw [cond_false]
      refine ih (a + 1) m (x == kk) h3 (by omega) ?_
      rcases hf with h | h
      · cases h
      · rcases List.mem_cons.mp h with h | h
        · exact Or.inl (by simp [h])
        · exact Or.inr h

theorem stars.l23 (i : Nat) (la : Bool) (t78 : Int) (w : List Int) (hw : w.length ≤ 400) (row : List Int) (hrow : row.length ≤ 200) (hy : YF[i]? = some row) (hi : i < 1000) (g : List Int) (hx : XF[i]? = some g) (hlen : la = false → row.length = g.length) (hsub : ∀ x ∈ w, x ∈ row) (N : Nat)
    (hN : ∀ m, N ≤ m → law08_PosStars.l11 (law08_PosStars.R C m) XS xb xf xl XF YS yb yf yl YF t78 ((i + 1 : Nat) : Int) = some true) :
    ∀ (r : List Int) (a j : Nat), w.drop a = r → r.length * 202 + N < j → law08_PosStars.l23 (law08_PosStars.R C j) XS xb xf xl XF YS yb yf yl YF i la t78 i w w.length a = some true := by
  intro r
  induction r with
  | nil =>
    intro a j hr hj
    obtain ⟨m, rfl, hm⟩ := succ_of hj
    have hm' : N ≤ m := by simpa using hm
    rw [law08_PosStars.s23, law08_PosStars.t23, dec_ge (drop_nil' hr), cond_false, wrapS i (by omega)]
    cases la with
    | true => rw [Bool.not_true, cond_false]; exact hN m hm'
    | false =>
      rw [Bool.not_false, cond_true, idx_nat, idx_nat, hy, hx, Option.bind_some, Option.bind_some, hlen rfl, show (((List.length g) : Int) != ((List.length g) : Int)) = false from by simp, cond_false]
      exact hN m hm'
  | cons x r ih =>
    intro a j hr hj
    obtain ⟨m, rfl, hm⟩ := succ_of hj
    obtain ⟨h1, h2, h3⟩ := drop_cons' hr
    rw [List.length_cons] at hj
    rw [law08_PosStars.s23, law08_PosStars.t23, dec_lt h1, cond_true, inB_ok (by omega) (by omega), cond_true, idx_nat, h2, Option.bind_some, idx_nat, hy, Option.bind_some]
    refine stars.l27 C XS xb xf xl XF YS yb yf yl YF i la x t78 w w.length a row hrow (by omega) (r.length * 202 + N + 1) (fun m hm => ?_) row 0 m false List.drop_zero (by omega) (Or.inr (hsub x (List.mem_of_getElem? h2)))
    exact ih (a + 1) m h3 (by omega)

theorem stars.l16 (i : Nat) (t78 : Int) (w : List Int) (hw : w.length ≤ 200) (hxf : xf.length ≤ 200) (hxl : xl.length ≤ 200) (row : List Int) (hrow : row.length ≤ 200) (hy : YF[i]? = some row) (hi : i < 1000) (g : List Int) (hx : XF[i]? = some g)
    (hlen : (i : Int) ∉ xl → row.length = g.length) (hsub : ∀ x ∈ w, x ∈ row) (hsub2 : (i : Int) ∈ xl → ∀ x ∈ xf, x ∈ row) (N : Nat)
    (hN : ∀ m, N ≤ m → law08_PosStars.l11 (law08_PosStars.R C m) XS xb xf xl XF YS yb yf yl YF t78 ((i + 1 : Nat) : Int) = some true) :
    ∀ (r : List Int) (a j : Nat) (la : Bool), xl.drop a = r → r.length + 90000 + N < j → (la = true ∨ (i : Int) ∈ r ↔ (i : Int) ∈ xl) → law08_PosStars.l16 (law08_PosStars.R C j) XS xb xf xl XF YS yb yf yl YF i w la t78 i xl xl.length a = some true := by
  intro r
  induction r with
  | nil =>
    intro a j la hr hj hla
    obtain ⟨m, rfl, hm⟩ := succ_of (Nat.lt_of_le_of_lt (Nat.zero_le _) hj)
    rw [law08_PosStars.s16, law08_PosStars.t16, dec_ge (drop_nil' hr), cond_false]
    cases la with
    | true =>
      have hin : (i : Int) ∈ xl := hla.mp (Or.inl rfl)
      rw [cond_true, room_ok (by omega)]
      have hl2 : (w ++ xf).length ≤ 400 := by rw [List.length_append]; omega
      refine stars.l23 C XS xb xf xl XF YS yb yf yl YF i true t78 (w ++ xf) hl2 row hrow hy hi g hx (fun h => by cases h) (fun x hx => ?_) N hN (w ++ xf) 0 m List.drop_zero (by have := Nat.mul_le_mul_right 202 hl2; omega)
      rcases List.mem_append.mp hx with h | h
      · exact hsub x h
      · exact hsub2 hin x h
    | false =>
      have hout : (i : Int) ∉ xl := fun h => by rcases hla.mpr h with h | h <;> cases h
      rw [cond_false]
      refine stars.l23 C XS xb xf xl XF YS yb yf yl YF i false t78 w (by omega) row hrow hy hi g hx (fun _ => hlen hout) hsub N hN w 0 m List.drop_zero (by have := Nat.mul_le_mul_right 202 hw; omega)
  | cons x r ih =>
    intro a j la hr hj hla
    obtain ⟨m, rfl, hm⟩ := succ_of (Nat.lt_of_le_of_lt (Nat.zero_le _) hj)
    obtain ⟨h1, h2, h3⟩ := drop_cons' hr
    rw [List.length_cons] at hj
    rw [law08_PosStars.s16, law08_PosStars.t16, dec_lt h1, cond_true, idx_nat, h2, Option.bind_some, wrapS a (by omega)]
    cases la with
    | true => rw [cond_true]; exact ih (a + 1) m true h3 (by omega) ⟨fun _ => hla.mp (Or.inl rfl), fun _ => Or.inl rfl⟩
    | false =>
      rw [cond_false]
      refine ih (a + 1) m (x == (i : Int)) h3 (by omega) ⟨fun h => hla.mp (Or.inr ?_), fun h => ?_⟩
      · rcases h with h | h
        · exact List.mem_cons.mpr (Or.inl (eq_of_beq h).symm)
        · exact List.mem_cons_of_mem _ h
      · rcases hla.mpr h with h | h
        · cases h
        · rcases List.mem_cons.mp h with h | h
          · exact Or.inl (by simp [h])
          · exact Or.inr h

theorem stars.l11 (n : Nat) (hn : n ≤ 200) (hxf : xf.length ≤ 200) (hxl : xl.length ≤ 200) (hXF : XF.length = n)
    (h : ∀ (i : Nat) g, XF[i]? = some g → g.length ≤ 200 ∧ ∃ row, YF[i]? = some row ∧ row.length ≤ 200 ∧ (∀ x ∈ g, x ∈ row) ∧ ((i : Int) ∈ xl → ∀ x ∈ xf, x ∈ row) ∧ ((i : Int) ∉ xl → row = g)) :
    ∀ (K : Nat), 95000 ≤ K → ∀ (r i j : Nat), n - i = r → r * K < j → law08_PosStars.l11 (law08_PosStars.R C j) XS xb xf xl XF YS yb yf yl YF n i = some true := by
  intro K hK r
  induction r with
  | zero =>
    intro i j hr hj
    rw [Nat.zero_mul] at hj
    obtain ⟨m, rfl, hm⟩ := succ_of hj
    rw [law08_PosStars.s11, law08_PosStars.t11, dec_ge (by omega), cond_false]
  | succ r ih =>
    intro i j hr hj
    rw [Nat.succ_mul] at hj
    obtain ⟨m, rfl, hm⟩ := succ_of (Nat.lt_of_le_of_lt (Nat.zero_le _) hj)
    generalize r * K = q at hj ih
    have hi : i < XF.length := by omega
    obtain ⟨hg, row, h1, h2, h3, h4, h5⟩ := h i XF[i] (List.getElem?_eq_getElem hi)
    rw [law08_PosStars.s11, law08_PosStars.t11, dec_lt (by omega), cond_true, idx_nat, List.getElem?_eq_getElem hi, Option.bind_some, room_ok (by omega)]
    exact stars.l16 C XS xb xf xl XF YS yb yf yl YF i n XF[i] hg hxf hxl row h2 h1 (by omega) XF[i] (List.getElem?_eq_getElem hi) (fun h => by rw [h5 h]) h3 h4 (q + 1) (fun m hm => ih (i + 1) m (by omega) (by omega)) xl 0 m false List.drop_zero (by omega)
      ⟨fun h => h.elim (fun h => by cases h) id, Or.inr⟩

end

theorem star_right {p : Pat} (h : (Pat.mk 4 [] [p]).right = true) : p.right = true := by
  have h1 := (Bool.and_eq_true _ _).mp h
  have h2 := (Bool.and_eq_true _ _).mp h1.1
  have a1 : (Pat.mk 4 [] [p]).parts ≤ 200 := of_decide_eq_true h2.1
  have a2 : (Pat.mk 4 [] [p]).deep ≤ 40 := of_decide_eq_true h2.2
  have e1 : (Pat.mk 4 [] [p]).parts = p.parts + 0 + 1 := by rw [Pat.parts_eq]; show Pat.partsL [p] + 1 = _; rw [Pat.partsL, Pat.partsL]
  have e2 : (Pat.mk 4 [] [p]).deep = max p.deep 0 + 1 := by rw [Pat.deep_eq]; show Pat.deepL [p] + 1 = _; rw [Pat.deepL, Pat.deepL]
  have a3 : p.fits = true := fits_sub h1.2 p (List.mem_singleton.mpr rfl)
  unfold Pat.right
  rw [decide_eq_true (show p.parts ≤ 200 by omega), decide_eq_true (show p.deep ≤ 40 by omega), a3]
  rfl

theorem law08_PosStars.spec (p : Pat) (hp : p.Lens) (k : Nat) (hk : 4398046511104 + p.parts < k) (ha : law08_alive.C (B0.call k) = some true) : law08_PosStars.C (B0.call (k + 1)) p.kind p.set p.subs = some true := by
  obtain ⟨m, rfl⟩ : ∃ m, k = m + 1 := ⟨k - 1, by omega⟩
  rw [law08_PosStars.s, law08_PosStars.t, ha, Option.bind_some, Bool.not_true, cond_false, ref05_Great.spec p m hp (by omega), Option.bind_some, Pat.eta]
  by_cases hg : 3000 < p.parts
  · rw [decide_eq_true hg, cond_true]
  · rw [decide_eq_false hg, cond_false]
    have e1 : (Pat.mk 4 [] [p]).parts = p.parts + 0 + 1 := by rw [Pat.parts_eq]; show Pat.partsL [p] + 1 = _; rw [Pat.partsL, Pat.partsL]
    have er : pat_Right.C (B0.call (m + 1)) 4 [] [p] = some (Pat.mk 4 [] [p]).right := pat_Right.specP (Pat.mk 4 [] [p]) (m + 1) (by omega) (by omega)
    rw [er, Option.bind_some]
    cases hr : (Pat.mk 4 [] [p]).right with
    | false => rw [Bool.not_false, cond_true]
    | true =>
      have hr1 := star_right hr
      have b1 := (Bool.and_eq_true _ _).mp ((Bool.and_eq_true _ _).mp hr1).1
      have hpa : p.parts ≤ 200 := of_decide_eq_true b1.1
      have o1 := pos_Of.right p hr1 m (by omega)
      have o2 : pos_Of.C (B0.call (m + 1)) 4 [] [p] = _ := pos_Of.right (Pat.mk 4 [] [p]) hr m (by omega)
      have hs : partP (Pat.mk 4 [] [p]) [] [] = ((true, (partP p [] []).1.2), (partP p [] []).2.1, chainP (partP p [] []).2.2 (partP p [] []).1.2.2 (partP p [] []).1.2.1) := by
        rw [partP_eq]; rfl
      have hgood := partP_good p [] [] ⟨rfl, fun g hg => by cases hg⟩
      have hmo : (partP p [] []).2.1.length ≤ 0 + p.parts := hgood.most
      generalize partP p [] [] = R at o1 o2 hs hgood hmo
      rw [hs] at o2
      have l1 := hgood.first.len
      have l2 := hgood.last.len
      rw [o1, o2, Bool.not_true, cond_false, Option.bind_some, Option.bind_some]
      have hgood2 := chainP_good hgood.first R.1.2.2 _ hgood.fol
      have i1 := ref08_Ints.refl m R.1.2.1 (by omega) (by omega)
      have i2 := ref08_Ints.refl m R.1.2.2 (by omega) (by omega)
      simp only [i1, i2, Option.bind_some, Bool.not_true, cond_false, bne_self_eq_false]
      have hFl := hgood.fol.1
      rw [hFl]
      refine stars.l11 (B0.call (m + 1)) _ _ _ _ _ _ _ _ _ _ R.2.1.length (by omega) (by omega) (by omega) hFl (fun i g hg => ?_) 95000 (Nat.le_refl _) R.2.1.length 0 (m + 1) rfl (by have := Nat.mul_le_mul_right 95000 (show R.2.1.length ≤ 200 by omega); omega)
      have hgg := (hgood.fol.2 g (List.mem_of_getElem? hg)).len
      obtain ⟨-, hc⟩ := chainP_at R.1.2.1 R.1.2.2 R.2.2
      obtain ⟨row, h1, h2, h3, h4⟩ := hc (fun x hx => (hgood.last.2 x hx).1) i g hg
      have hrl := (hgood2.2 row (List.mem_of_getElem? h1)).len
      exact ⟨by omega, row, h1, by omega, h2, h3, h4⟩

end Go.Proofs.Ytoifbdaaiejbnaa.D
/- What a row hands over, opened to data: numbers, slices, patterns. -/
namespace Go.Proofs.Ytoifbdaaiejbnaa.D
open Go Go.RowKit Go.ChangeShapes Go.WideShapes

section
variable {H : Type} {enc : TypeId × Value → H} {P : Program} {w : World} {base : Nat} {spare : Nat → Bool} {held : Bool}

theorem pick_all {α : Type} {Q : Nat → α → Prop} : ∀ n : Nat, (∀ i, i < n → ∃ x, Q i x) → ∃ xs : List α, xs.length = n ∧ ∀ i x, xs[i]? = some x → Q i x
  | 0, _ => ⟨[], rfl, fun i x h => by simp at h⟩
  | n + 1, h => by
    obtain ⟨xs, hl, hx⟩ := pick_all n (fun i hi => h i (by omega))
    obtain ⟨x, hxn⟩ := h n (by omega)
    refine ⟨xs ++ [x], by simp [hl], fun i z hz => ?_⟩
    by_cases hi : i < n
    · rw [List.getElem?_append_left (by omega)] at hz
      exact hx i z hz
    · rw [List.getElem?_append_right (by omega)] at hz
      have hi0 : i - xs.length = 0 := by
        have := (List.getElem?_eq_some_iff.1 hz).1
        simp at this
        omega
      rw [hi0] at hz
      have : x = z := by simpa using hz
      subst this
      have : i = n := by omega
      subst this
      exact hxn

theorem opens_sl {α : Type} (cells : α → List Cell) (mk : List α → Cell) {T e sz fuel : Nat} {good : α → Prop} (ht : P.underlying T = some (.slice e)) (hce : P.cellsOf e = sz) (hsz : 0 < sz) (hcl : ∀ x, (cells x).length = sz)
    (hmk : ∀ l, elems (mk l) = some (l.map cells)) (hes : ∀ l, esize (mk l).c = sz)
    (ho : ∀ n, n < fuel → ∀ cs y, DataW.trod enc P w base spare held n e cs = some y → ∃ x, cs.length = sz ∧ (∀ (j : Nat) c v, (cells x)[j]? = some c → cs[j]? = some v → RepC w (Old w) c v) ∧ good x)
    {cs : List Value} {y : DataW H × List MemPlace} (h : DataW.trod enc P w base spare held fuel T cs = some y) :
    ∃ (l : List α) (v : Value), cs = [v] ∧ RepC w (Old w) (mk l) v ∧ (∀ x ∈ l, good x) ∧ l.length ≤ maxLen := by
  rcases DataW.trod_slice ht h with ⟨rfl, _⟩ | ⟨a, len, cap, els, rest, n, hf, rfl, _, hb, hl, hm, hlen, hel, _, _⟩
  · refine ⟨[], _, rfl, ?_, fun x hx => (List.not_mem_nil hx).elim, Nat.zero_le _⟩
    exact .sl (mk []) [] none 0 0 0 (fun _ _ => .bool false) (hmk []) (Nat.le_refl 0) (fun e => absurd rfl e) (fun i j l x h1 => by cases h1) (fun i j l x h1 => by cases h1)
  · have each : ∀ i, i < len → ∃ q : α × List Value, w.cells? base (a.add (i * sz)) sz = some q.2 ∧ q.2.length = sz ∧ (∀ (j : Nat) c v, (cells q.1)[j]? = some c → q.2[j]? = some v → RepC w (Old w) c v) ∧ good q.1 := fun i hi => by
      have h1 := hel i hi
      rw [List.getElem?_eq_getElem (by omega), hce] at h1
      obtain ⟨cs', h2, h3⟩ := Option.bind_eq_some_iff.1 h1
      obtain ⟨x, h4, h5, h6⟩ := ho n (by omega) _ _ h3
      exact ⟨(x, cs'), h2, h4, h5, h6⟩
    obtain ⟨qs, hql, hq⟩ := pick_all len each
    have cellAt : ∀ (i j : Nat) q v, qs[i]? = some q → q.2[j]? = some v → w.cell? ⟨a.block, a.off + (i * sz + j), none⟩ = some v ∧ a.spot = none := by
      intro i j q v hi hj
      obtain ⟨h1, h2, _, _⟩ := hq i q hi
      obtain ⟨_, _, h5⟩ := World.cells?_some h1
      have hjl : j < sz := by have := (List.getElem?_eq_some_iff.1 hj).1; omega
      have h6 := h5 j hjl
      rw [hj, Go.Deep.add_add] at h6
      have hsp : a.spot = none := by
        have h7 : ∃ u, w.cell? (a.add 0) = some u := by
          have hq0 : ∃ q0, qs[0]? = some q0 := by
            have := (List.getElem?_eq_some_iff.1 hi).1
            exact ⟨_, List.getElem?_eq_getElem (by omega)⟩
          obtain ⟨q0, hq0⟩ := hq0
          obtain ⟨k1, k2, _, _⟩ := hq 0 q0 hq0
          obtain ⟨_, _, k5⟩ := World.cells?_some k1
          have := k5 0 hsz
          rw [Go.Deep.add_add, Nat.zero_mul] at this
          exact ⟨_, this.trans (List.getElem?_eq_getElem (by omega))⟩
        obtain ⟨u, hu⟩ := h7
        rw [Addr.add_zero'] at hu
        unfold World.cell? at hu
        split at hu
        · split at hu
          · cases hu
          · rename_i hs; cases hs' : a.spot with
            | none => rfl
            | some s => rw [hs'] at hs; simp at hs
        · cases hu
      refine ⟨?_, hsp⟩
      have ea : a = ⟨a.block, a.off, none⟩ := by cases a; cases hsp; rfl
      rw [ea, Addr.add_lit] at h6
      exact h6
    refine ⟨qs.map (·.1), _, rfl, ?_, fun x hx => ?_, by rw [List.length_map]; omega⟩
    · have hlen2 : ((qs.map (·.1)).map cells).length = len := by simp [hql]
      rw [← hlen2]
      refine .sl (mk (qs.map (·.1))) ((qs.map (·.1)).map cells) (some a) cap a.block a.off (fun i j => ((qs.map (·.2)).getD i []).getD j undef) (hmk _) (by rw [hlen2]; exact hl) (fun hne => ?_) (fun i j l x hi hj => ?_) (fun i j l x hi hj => ?_)
      · have h0 : ∃ q0, qs[0]? = some q0 := by
          cases qs with
          | nil => exact absurd rfl hne
          | cons q _ => exact ⟨q, rfl⟩
        obtain ⟨q0, h0⟩ := h0
        obtain ⟨_, h2, _, _⟩ := hq 0 q0 h0
        have hs := (cellAt 0 0 q0 (q0.2[0]'(by omega)) h0 (List.getElem?_eq_getElem (by omega))).2
        cases a; cases hs; rfl
      · rw [List.map_map, List.getElem?_map] at hi
        obtain ⟨q, hqi, rfl⟩ := Option.map_eq_some_iff.1 hi
        obtain ⟨_, h2, _, _⟩ := hq i q hqi
        have hjl : j < q.2.length := by have := (List.getElem?_eq_some_iff.1 hj).1; rw [Function.comp, hcl] at this; omega
        have e1 : ((qs.map (·.2)).getD i []).getD j undef = q.2[j] := by
          rw [List.getD_eq_getElem?_getD, List.getD_eq_getElem?_getD, List.getElem?_map, hqi]
          simp [List.getElem?_eq_getElem hjl]
        rw [e1, hes]
        have hc := (cellAt i j q q.2[j] hqi (List.getElem?_eq_getElem hjl)).1
        exact ⟨hc, World.block_lt_of_cell? w ⟨a.block, _, none⟩ hc⟩
      · rw [List.map_map, List.getElem?_map] at hi
        obtain ⟨q, hqi, rfl⟩ := Option.map_eq_some_iff.1 hi
        obtain ⟨_, h2, h3, _⟩ := hq i q hqi
        have hjl : j < q.2.length := by have := (List.getElem?_eq_some_iff.1 hj).1; rw [Function.comp, hcl] at this; omega
        have e1 : ((qs.map (·.2)).getD i []).getD j undef = q.2[j] := by
          rw [List.getD_eq_getElem?_getD, List.getD_eq_getElem?_getD, List.getElem?_map, hqi]
          simp [List.getElem?_eq_getElem hjl]
        rw [e1]
        exact h3 j x _ hj (List.getElem?_eq_getElem hjl)
    · obtain ⟨q, hq', rfl⟩ := List.mem_map.1 hx
      obtain ⟨i, hi⟩ := List.getElem?_of_mem hq'
      exact (hq i q hi).2.2.2

def okU (x : Int × Int) : Prop := (Lit.int .u32 x.1).wf = true ∧ (Lit.int .u32 x.2).wf = true

theorem opens_spans {T e fuel : Nat} {n0 n1 : Field} (ht : P.underlying T = some (.slice e)) (he : P.underlying e = some (.struct #[n0, n1])) (h0 : n0.offset = 0) (h1 : n1.offset = 1) (k0 : P.underlying n0.type = some (.int .u32)) (k1 : P.underlying n1.type = some (.int .u32))
    (hce : P.cellsOf e = 2) (c0 : P.cellsOf n0.type = 1) (c1 : P.cellsOf n1.type = 1) {cs : List Value} {y : DataW H × List MemPlace} (h : DataW.trod enc P w base spare held fuel T cs = some y) :
    ∃ (l : List (Int × Int)) (v : Value), cs = [v] ∧ RepC w (Old w) ⟨.sl spanRow, l⟩ v ∧ (∀ x ∈ l, okU x) ∧ l.length ≤ maxLen :=
  opens_sl (α := Int × Int) (rowCells spanRow) (fun l => ⟨.sl spanRow, l⟩) (good := okU) ht hce (by decide) (fun _ => rfl) (fun _ => rfl) (fun _ => rfl) (fun n _ cs y h => by
    obtain ⟨xs, n, _, _, hl, hxl, hx⟩ := DataW.trod_struct he h
    rw [hce] at hl
    match cs, hl with
    | [a, b], _ =>
      have hxl : xs.length = 2 := hxl
      have f0 := hx 0 n0 rfl
      have f1 := hx 1 n1 rfl
      rw [h0, c0, List.getElem?_eq_getElem (by omega)] at f0
      rw [h1, c1, List.getElem?_eq_getElem (by omega)] at f1
      obtain ⟨x, e0, _, w0⟩ := DataW.trod_int k0 f0
      obtain ⟨z, e1, _, w1⟩ := DataW.trod_int k1 f1
      have e0 : [a] = [.int .u32 x] := e0
      have e1 : [b] = [.int .u32 z] := e1
      cases e0
      cases e1
      refine ⟨(x, z), rfl, fun j c v hj hv => ?_, w0, w1⟩
      match j with
      | 0 => cases hj; cases hv; exact .int _ _
      | 1 => cases hj; cases hv; exact .int _ _
      | j + 2 => cases hv) h

/- a pattern as a row hands it over -/
inductive Pat.Wf : Pat → Prop
  | mk (k : Int) (s : List (Int × Int)) (l : List Pat) (hk : (Lit.int .i64 k).wf = true) (hs : ∀ x ∈ s, okU x) (hsl : s.length ≤ maxLen) (hl : ∀ p ∈ l, Pat.Wf p) (hll : l.length ≤ maxLen) : Pat.Wf (.mk k s l)

theorem opens_pat {TP E : Nat} {n0 n1 n2 m0 m1 : Field} (ht : P.underlying TP = some (.struct #[n0, n1, n2])) (hc : P.cellsOf TP = 3) (o0 : n0.offset = 0) (o1 : n1.offset = 1) (o2 : n2.offset = 2)
    (c0 : P.cellsOf n0.type = 1) (c1 : P.cellsOf n1.type = 1) (c2 : P.cellsOf n2.type = 1) (k0 : P.underlying n0.type = some (.int .i64)) (k1 : P.underlying n1.type = some (.slice E)) (k2 : P.underlying n2.type = some (.slice TP))
    (he : P.underlying E = some (.struct #[m0, m1])) (p0 : m0.offset = 0) (p1 : m1.offset = 1) (q0 : P.underlying m0.type = some (.int .u32)) (q1 : P.underlying m1.type = some (.int .u32)) (hce : P.cellsOf E = 2) (d0 : P.cellsOf m0.type = 1) (d1 : P.cellsOf m1.type = 1) :
    ∀ (fuel : Nat) (cs : List Value) (y : DataW H × List MemPlace), DataW.trod enc P w base spare held fuel TP cs = some y → ∃ p : Pat, cs.length = 3 ∧ (∀ (j : Nat) c v, (Pat.cells p)[j]? = some c → cs[j]? = some v → RepC w (Old w) c v) ∧ p.Wf := by
  intro fuel
  induction fuel using Nat.strongRecOn with
  | _ fuel ih =>
    intro cs y h
    obtain ⟨xs, n, rfl, _, hl, hxl, hx⟩ := DataW.trod_struct ht h
    rw [hc] at hl
    match cs, hl with
    | [a, b, c], _ =>
      have hxl : xs.length = 3 := hxl
      have f0 := hx 0 n0 rfl
      have f1 := hx 1 n1 rfl
      have f2 := hx 2 n2 rfl
      rw [o0, c0, List.getElem?_eq_getElem (by omega)] at f0
      rw [o1, c1, List.getElem?_eq_getElem (by omega)] at f1
      rw [o2, c2, List.getElem?_eq_getElem (by omega)] at f2
      obtain ⟨k, e0, _, w0⟩ := DataW.trod_int k0 f0
      obtain ⟨s, v1, e1, r1, g1, l1⟩ := opens_spans k1 he p0 p1 q0 q1 hce d0 d1 f1
      obtain ⟨l, v2, e2, r2, g2, l2⟩ := opens_sl (α := Pat) Pat.cells (fun l => ⟨.pats, l⟩) (good := Pat.Wf) k2 hc (by decide) (fun _ => rfl) (fun _ => rfl) (fun _ => rfl) (fun m hm cs y h => ih m (by omega) cs y h) f2
      have e0 : [a] = [.int .i64 k] := e0
      have e1 : [b] = [v1] := e1
      have e2 : [c] = [v2] := e2
      cases e0
      cases e1
      cases e2
      refine ⟨.mk k s l, rfl, fun j c v hj hv => ?_, .mk k s l w0 g1 l1 g2 l2⟩
      match j with
      | 0 => cases hj; cases hv; exact .int _ _
      | 1 => cases hj; cases hv; exact r1
      | 2 => cases hj; cases hv; exact r2
      | j + 3 => cases hv

end

end Go.Proofs.Ytoifbdaaiejbnaa.D
/- slices.Insert at int: what it makes of two slices of one's own. -/
namespace Go.Proofs.Ytoifbdaaiejbnaa.D
open Go Go.RowKit Go.Shelf

def lay_Insert_int_ren : Go.Shelf.Ren := ⟨fun | 21 => 51 | 27 => 64 | 28 => 65 | 35 => 73 | 39 => 86 | n => n, fun | 22 => 30 | 3 => 3 | 4 => 4 | 0 => 0 | n => n, fun n => n⟩
theorem lay_Insert_int : Lays2.n21 Try.prog lay_Insert_int_ren := {
  mixed := by kernel_rfl,
  f21 := Try.func51.trans (congrArg some (by kernel_rfl)),
  f27 := Try.func64.trans (congrArg some (by kernel_rfl)),
  f28 := Try.func65.trans (congrArg some (by kernel_rfl)),
  f35 := Try.func73.trans (congrArg some (by kernel_rfl)),
  f39 := Try.func86.trans (congrArg some (by kernel_rfl)),
  t0 := Try.underlying0,
  a0 := Try.isAgg0,
  z0 := Try.sizeOf0,
  v0 := Try.zeroValue0,
  t3 := Try.underlying3,
  a3 := Try.isAgg3,
  z3 := Try.sizeOf3,
  v3 := Try.zeroValue3,
  t4 := Try.underlying4,
  a4 := Try.isAgg4,
  z4 := Try.sizeOf4,
  v4 := Try.zeroValue4,
  t22 := Try.underlying30,
  a22 := Try.isAgg30,
  z22 := Try.sizeOf30,
  v22 := Try.zeroValue30,
  i3 := by kernel_rfl }


/- a block some of whose cells are told anew -/
def putL : Nat → List Value → Array Value → Array Value
  | _, [], c => c
  | o, v :: r, c => putL (o + 1) r (c.setIfInBounds o v)

theorem putL_size : ∀ (vs : List Value) (o : Nat) (c : Array Value), (putL o vs c).size = c.size
  | [], _, _ => rfl
  | v :: r, o, c => by rw [putL, putL_size r]; simp

theorem putL_list : ∀ (vs : List Value) (o : Nat) (c : Array Value), o + vs.length ≤ c.size → (putL o vs c).toList = c.toList.take o ++ vs ++ c.toList.drop (o + vs.length)
  | [], o, c, _ => by simp [putL]
  | v :: r, o, c, h => by
    have h : o + (r.length + 1) ≤ c.size := h
    rw [putL, putL_list r (o + 1) _ (by simp; omega)]
    have h1 : o < c.toList.length := by simp; omega
    rw [Array.toList_setIfInBounds, List.take_set, List.drop_set_of_lt (by omega), List.take_succ_eq_append_getElem h1, List.set_append_right _ _ (by rw [List.length_take]; omega)]
    have h2 : o - (c.toList.take o).length = 0 := by rw [List.length_take]; omega
    rw [h2]
    simp [Nat.add_assoc, Nat.add_comm 1]

theorem setCells_heap (b : Nat) : ∀ (vs : List Value) (o : Nat) (w : World), (∀ cur e, w.heap[b]? = some (.cells cur e (0, 0)) → (w.setCells b o vs).heap[b]? = some (.cells (putL o vs cur) e (0, 0))) ∧
    (∀ k, k ≠ b → (w.setCells b o vs).heap[k]? = w.heap[k]?) ∧ (w.setCells b o vs).heap.size = w.heap.size ∧ (w.setCells b o vs).os = w.os ∧ (w.setCells b o vs).tape = w.tape ∧ (w.setCells b o vs).output = w.output
  | [], o, w => ⟨fun _ _ h => h, fun _ _ => rfl, rfl, rfl, rfl, rfl⟩
  | v :: r, o, w => by
    obtain ⟨h1, h2, h3, h4, h5, h6⟩ := setCells_heap b r (o + 1) (w.setCell ⟨b, o, none⟩ v)
    rw [World.setCells]
    refine ⟨fun cur e h => h1 _ e ?_, fun k hk => (h2 k hk).trans ?_, h3.trans ?_, h4, h5, h6⟩
    · unfold World.setCell
      rw [Array.getElem?_modify, if_pos rfl, h]
      rfl
    · unfold World.setCell
      rw [Array.getElem?_modify, if_neg (fun e => hk e.symm)]
    · unfold World.setCell
      simp

theorem row_cells {w : World} {g cap n : Nat} {cur : Array Value} {e : TypeId} (hb : w.heap[g]? = some (.cells cur e (0, 0))) {cs : List Value} (ht : cur.toList.take n = cs) : ∀ j v, cs[j]? = some v → w.cell? ⟨g, 0 + j, none⟩ = some v := by
  intro j v hj
  rw [Nat.zero_add, cell_of_block hb]
  rw [← ht] at hj
  rw [← Array.getElem?_toList]
  rw [List.getElem?_take] at hj
  split at hj
  · exact hj
  · cases hj

theorem grew (w : World) (o : Obj) : (w.alloc o).drew.heap[w.heap.size]? = some o ∧ (∀ g, g < w.heap.size → (w.alloc o).drew.heap[g]? = w.heap[g]?) ∧ (w.alloc o).drew.heap.size = w.heap.size + 1 :=
  ⟨heap_alloc_new w o, fun g hg => heap_alloc_old w o hg, by show (w.alloc o).heap.size = _; simp⟩
theorem grew2 (w : World) (o : Obj) : (w.drew.alloc o).heap[w.heap.size]? = some o ∧ (∀ g, g < w.heap.size → (w.drew.alloc o).heap[g]? = w.heap[g]?) ∧ (w.drew.alloc o).heap.size = w.heap.size + 1 := grew w o

def InsOut (w : World) (v0 : Value) (r : List Value) (e : Ending) (w' : World) : Prop :=
  ∃ v', e = .returned v' ∧ w'.ownsRow 0 3 1 v' r.length r ∧ Step w w' (fun g => v0.ownBlock = some g) ∧ (v'.ownBlock = v0.ownBlock ∨ ∃ g, v'.ownBlock = some g ∧ w.heap.size ≤ g)

theorem insert_calls (w : World) (v0 v1 : Value) (cs vs : List Value) (i : Nat) (h0 : w.ownsRow 0 3 1 v0 cs.length cs) (h1 : w.ownsRow 0 3 1 v1 vs.length vs) (hne : ∀ g, v0.ownBlock = some g → v1.ownBlock ≠ some g)
    (hi : i ≤ cs.length) (hm : 0 < vs.length) (hbig : (cs.length + vs.length) * 8 ≤ 140737488355328) (hc : ∀ v ∈ cs, v.oneCell' = true) (hv : ∀ v ∈ vs, v.oneCell' = true) :
    Calls Try.prog 51 #[v0, .int .i64 i, v1] w (InsOut w v0 (cs.take i ++ vs ++ cs.drop i)) := by
  obtain ⟨-, h1 | ⟨vb, vc, vcur, rfl, -, hvb, hvn, hvm, hvs, hvt⟩⟩ := h1
  · omega
  rw [Nat.mul_one] at hvs hvt
  have cv := row_cells (cap := vc) hvb hvt
  have hvlt : vb < w.heap.size := (Array.getElem?_eq_some_iff.1 hvb).1
  have hrl : (cs.take i ++ vs ++ cs.drop i).length = cs.length + vs.length := by simp; omega
  have grown : ∀ (w' : World) (W : List Value) (c : Nat), W.length = cs.length + vs.length → cs.length + vs.length ≤ c → c ≤ maxLen → ∀ (cur : Array Value), cur.size = c → cur.toList.take (cs.length + vs.length) = W →
      w'.heap[w.heap.size]? = some (.cells cur 3 (0, 0)) → w'.ownsRow 0 3 1 (.slice (some ⟨w.heap.size, 0, none⟩) (cs.length + vs.length) c) W.length W := by
    intro w' W c hW hn hm cur hs ht hb
    refine ⟨by rw [Nat.mul_one], .inr ⟨w.heap.size, c, cur, by rw [hW], Nat.zero_le _, hb, by rw [hW]; exact hn, hm, by rw [Nat.mul_one]; exact hs, by rw [hW, Nat.mul_one]; exact ht⟩⟩
  obtain ⟨-, ⟨rfl, hn⟩ | ⟨b, c, cur, rfl, -, hb, hnc, hcm, hcs, hct⟩⟩ := h0
  · have hcs0 : cs = [] := List.eq_nil_of_length_eq_zero hn
    subst hcs0
    have hi0 : i = 0 := by simpa using hi
    subst hi0
    have hcon := Any2.slices_Insert_int_end_grow lay_Insert_int none 0 0 vb 0 vs.length vc [] vs w hm (Nat.le_refl _) (by omega) (by simpa using hbig) rfl rfl (fun _ => rfl) (fun a h => by cases h) cv hv
    rw [show lay_Insert_int_ren.t 3 = 3 from rfl] at hcon
    refine (show Calls Try.prog 51 _ _ _ from hcon).mono ?_
    rintro e w' ⟨rfl, rfl⟩
    have hg := grownCap_ge w (0 + vs.length) 0 3
    have hgm := grownCap_le_maxLen w (0 + vs.length) 0 3 (by unfold maxLen; simp at hbig; omega)
    refine ⟨_, rfl, ?_, ?_, .inr ⟨w.heap.size, rfl, Nat.le_refl _⟩⟩
    · refine grown _ _ _ hrl (by simpa using hg) hgm _ ?_ ?_ (grew2 _ _).1
      · simp [Builtin.zeroCells, Value.cells]; simp at hg; omega
      · simp
    · exact ⟨Nat.le_of_lt (by rw [(grew2 _ _).2.2]; exact Nat.lt_succ_self _), fun g hg' _ => (grew2 _ _).2.1 g hg', rfl, rfl, rfl⟩
  · rw [Nat.mul_one] at hcs hct
    have cc := row_cells (cap := c) hb hct
    have hblt : b < w.heap.size := (Array.getElem?_eq_some_iff.1 hb).1
    have hvb' : vb ≠ b := fun e => hne b rfl (by rw [e]; rfl)
    have hsp : ∀ j, j < c → (w.cell? ⟨b, 0 + j, none⟩).isSome = true := fun j hj => by
      rw [Nat.zero_add, cell_of_block hb, Array.getElem?_eq_getElem (by omega)]; rfl
    have hfz : ∀ j, w.frozen? ⟨b, j, none⟩ = false := fun j => by simp [World.frozen?, hb]
    have hfv : ∀ j, w.frozen? ⟨vb, j, none⟩ = false := fun j => by simp [World.frozen?, hvb]
    have hc63 : c ≤ 9223372036854775807 := by unfold maxLen at hcm; omega
    have inplace : ∀ (w' : World) (cur' : Array Value), cur'.size = c → cs.length + vs.length ≤ c → cur'.toList.take (cs.length + vs.length) = cs.take i ++ vs ++ cs.drop i → w'.heap[b]? = some (.cells cur' 3 (0, 0)) →
        (∀ k, k ≠ b → w'.heap[k]? = w.heap[k]?) → w'.heap.size = w.heap.size → w'.os = w.os → w'.tape = w.tape → w'.output = w.output →
        InsOut w (.slice (some ⟨b, 0, none⟩) cs.length c) (cs.take i ++ vs ++ cs.drop i) (.returned (.slice (some ⟨b, 0, none⟩) (cs.length + vs.length) c)) w' := by
      intro w' cur' h1 h2 h3 h4 h5 h6 h7 h8 h9
      refine ⟨_, rfl, ?_, ⟨by omega, fun g hg hn => h5 g (fun e => hn (by rw [e]; rfl)), h7, h8, h9⟩, .inl rfl⟩
      rw [hrl]
      exact ⟨by rw [Nat.mul_one, hrl], .inr ⟨b, c, cur', rfl, Nat.zero_le _, h4, h2, hcm, by rw [Nat.mul_one]; exact h1, by rw [Nat.mul_one]; exact h3⟩⟩
    by_cases hroom : cs.length + vs.length ≤ c
    · by_cases hend : i = cs.length
      · subst hend
        have hcon := Any2.slices_Insert_int_end_room lay_Insert_int b 0 cs.length c vb 0 vs.length vc vs w hm hroom hc63 rfl (fun j hj => by rw [Nat.add_assoc]; exact hsp _ (by omega)) (fun j hj => hfz _) cv hv
        refine (show Calls Try.prog 51 _ _ _ from hcon).mono ?_
        rintro e w' ⟨rfl, rfl⟩
        obtain ⟨k1, k2, k3, k4, k5, k6⟩ := setCells_heap b vs (0 + cs.length) w
        refine inplace _ _ ?_ hroom ?_ (k1 _ _ hb) k2 k3 k4 k5 k6
        · rw [putL_size]; exact hcs
        · rw [putL_list _ _ _ (by omega), Nat.zero_add, hct, List.take_append_of_le_length (by rw [List.length_append]; exact Nat.le_refl _), List.take_of_length_le (by rw [List.length_append]; exact Nat.le_refl _), List.take_length, List.drop_length, List.append_nil]
      · have hi' : i < cs.length := by omega
        have hcon := Any2.slices_Insert_int_shift lay_Insert_int b 0 cs.length c i vb 0 vs.length vc cs vs w hi' hm hroom hc63 hvb' rfl rfl cc (fun j hj => hsp j (by omega)) (fun j _ => hfz _) cv hc hv
          3 3 vcur.size cur.size (by simp [World.shape?, hvb]) (by simp [World.shape?, hb]) (by omega) (hfv _) (hfv _)
        refine (show Calls Try.prog 51 _ _ _ from hcon).mono ?_
        rintro e w' ⟨rfl, rfl⟩
        obtain ⟨k1, k2, k3, k4, k5, k6⟩ := setCells_heap b (cs.drop i) (0 + (i + vs.length)) w.drew
        obtain ⟨j1, j2, j3, j4, j5, j6⟩ := setCells_heap b vs (0 + i) (w.drew.setCells b (0 + (i + vs.length)) (cs.drop i))
        have hdl : (cs.drop i).length = cs.length - i := List.length_drop
        refine inplace _ _ ?_ hroom ?_ (j1 _ _ (k1 _ _ hb)) (fun k hk => (j2 k hk).trans (k2 k hk)) (j3.trans k3) (j4.trans k4) (j5.trans k5) (j6.trans k6)
        · rw [putL_size, putL_size]; exact hcs
        · rw [putL_list _ _ _ (by rw [putL_size]; omega), putL_list _ _ _ (by rw [hdl]; omega)]
          rw [Nat.zero_add, Nat.zero_add]
          have e0 : cur.toList.length = c := hcs
          have e1 : (cur.toList.take (i + vs.length)).length = i + vs.length := by rw [List.length_take, e0]; omega
          have e2 : (List.take (i + vs.length) cur.toList ++ List.drop i cs ++ List.drop (i + vs.length + (List.drop i cs).length) cur.toList).take i = cs.take i := by
            rw [List.append_assoc, List.take_append_of_le_length (by omega), List.take_take, Nat.min_eq_left (by omega), ← hct, List.take_take, Nat.min_eq_left (by omega)]
          have e3 : (List.take (i + vs.length) cur.toList ++ List.drop i cs ++ List.drop (i + vs.length + (List.drop i cs).length) cur.toList).drop (i + vs.length) = List.drop i cs ++ List.drop (i + vs.length + (List.drop i cs).length) cur.toList := by
            rw [List.append_assoc, List.drop_append, List.drop_eq_nil_of_le (by omega), e1, Nat.sub_self, List.drop_zero, List.nil_append]
          rw [e2, e3, ← List.append_assoc, List.take_append_of_le_length (by rw [hrl]; omega), List.take_of_length_le (by rw [hrl]; omega)]
    · by_cases hend : i = cs.length
      · subst hend
        have hcon := Any2.slices_Insert_int_end_grow lay_Insert_int (some ⟨b, 0, none⟩) cs.length c vb 0 vs.length vc cs vs w hm hnc (by omega) hbig rfl rfl (fun h => by cases h) (fun a h j v hj => by cases h; rw [Addr.add_lit]; exact cc j v hj) cv hv
        rw [show lay_Insert_int_ren.t 3 = 3 from rfl] at hcon
        refine (show Calls Try.prog 51 _ _ _ from hcon).mono ?_
        rintro e w' ⟨rfl, rfl⟩
        have hg := grownCap_ge w (cs.length + vs.length) c 3
        have hgm := grownCap_le_maxLen w (cs.length + vs.length) c 3 (by unfold maxLen; omega)
        refine ⟨_, rfl, ?_, ?_, .inr ⟨w.heap.size, rfl, Nat.le_refl _⟩⟩
        · rw [hrl]
          have := grown (w.drew.alloc (.cells ((cs ++ vs).toArray ++ Builtin.zeroCells (Value.int .i64 0).cells (grownCap w (cs.length + vs.length) c 3 - (cs.length + vs.length))) 3)) (cs.take cs.length ++ vs ++ cs.drop cs.length) _ hrl hg hgm _ ?_ ?_ (grew2 _ _).1
          · rwa [hrl] at this
          · simp [Builtin.zeroCells, Value.cells]; omega
          · have e5 : cs.take cs.length ++ vs ++ cs.drop cs.length = cs ++ vs := by rw [List.take_length, List.drop_length, List.append_nil]
            rw [e5, Array.toList_append, List.take_append_of_le_length (by simp), List.take_of_length_le (by simp)]
        · exact ⟨Nat.le_of_lt (by rw [(grew2 _ _).2.2]; exact Nat.lt_succ_self _), fun g hg' _ => (grew2 _ _).2.1 g hg', rfl, rfl, rfl⟩
      · have hi' : i < cs.length := by omega
        have hcon := Any2.slices_Insert_int_grow lay_Insert_int b 0 cs.length c i vb 0 vs.length vc cs vs w hi' hm hnc (by omega) hbig rfl rfl cc cv hc hv
        rw [show lay_Insert_int_ren.t 3 = 3 from rfl] at hcon
        refine (show Calls Try.prog 51 _ _ _ from hcon).mono ?_
        rintro e w' ⟨rfl, rfl⟩
        have hg := grownCap_ge w (cs.length + vs.length) c 3
        have hgm := grownCap_le_maxLen w (cs.length + vs.length) c 3 (by unfold maxLen; omega)
        generalize hG : grownCap w (cs.length + vs.length) c 3 = G at hg hgm ⊢
        generalize hrow : (cs.take i).toArray ++ Builtin.zeroCells (Value.int .i64 0).cells (cs.length + vs.length - i) ++ Builtin.zeroCells (Value.int .i64 0).cells (G - (cs.length + vs.length)) = row
        have hrs : row.size = G := by rw [← hrow]; simp [Builtin.zeroCells, Value.cells]; omega
        have hrt : row.toList.take i = cs.take i := by rw [← hrow]; simp; rw [List.take_append_of_le_length (by simp; omega), List.take_take, Nat.min_self]
        have hdl : (cs.drop i).length = cs.length - i := List.length_drop
        generalize hw1 : (w.alloc (.cells row 3)).drew = w1
        have hw1b : w1.heap[w.heap.size]? = some (.cells row 3 (0, 0)) := by rw [← hw1]; exact (grew _ _).1
        have hw1o : ∀ g, g < w.heap.size → w1.heap[g]? = w.heap[g]? := fun g hg' => by rw [← hw1]; exact (grew _ _).2.1 g hg'
        have hw1s : w1.heap.size = w.heap.size + 1 := by rw [← hw1]; exact (grew _ _).2.2
        have hw1r : w1.os = w.os ∧ w1.tape = w.tape ∧ w1.output = w.output := by rw [← hw1]; exact ⟨rfl, rfl, rfl⟩
        obtain ⟨k1, k2, k3, k4, k5, k6⟩ := setCells_heap w.heap.size vs i w1
        obtain ⟨j1, j2, j3, j4, j5, j6⟩ := setCells_heap w.heap.size (cs.drop i) (i + vs.length) (w1.setCells w.heap.size i vs).drew
        refine ⟨_, rfl, ?_, ⟨by rw [j3]; show _ ≤ (w1.setCells w.heap.size i vs).heap.size; rw [k3]; omega, fun g hg' _ => (j2 g (by omega)).trans ((k2 g (by omega)).trans (hw1o g hg')), j4.trans (k4.trans hw1r.1), j5.trans (k5.trans hw1r.2.1), j6.trans (k6.trans hw1r.2.2)⟩, .inr ⟨w.heap.size, rfl, Nat.le_refl _⟩⟩
        rw [hrl]
        have := grown _ (cs.take i ++ vs ++ cs.drop i) G hrl hg hgm _ ?_ ?_ (j1 _ _ (k1 _ _ hw1b))
        · rwa [hrl] at this
        · rw [putL_size, putL_size]; exact hrs
        · rw [putL_list _ _ _ (by rw [putL_size]; omega), putL_list _ _ _ (by omega)]
          have e1 : (row.toList.take i).length = i := by rw [List.length_take, Array.length_toList]; omega
          have e2 : (List.take i row.toList ++ vs ++ List.drop (i + vs.length) row.toList).take (i + vs.length) = cs.take i ++ vs := by
            rw [List.take_append_of_le_length (by rw [List.length_append, e1]; exact Nat.le_refl _), List.take_of_length_le (by rw [List.length_append, e1]; exact Nat.le_refl _), hrt]
          rw [e2, List.take_append_of_le_length (by rw [hrl]; omega), List.take_of_length_le (by rw [hrl]; omega)]

theorem ownI_in {w : World} {G : Gh} {p : Nat} {l : List Int} (h : OwnS w G p 3 ⟨.sl (.one (.int .i64)), l⟩) :
    w.ownsRow 0 3 1 (G.hv p) (l.map (Value.int .i64)).length (l.map (Value.int .i64)) ∧ (∀ g, (G.hv p).ownBlock = some g → G.L g = .arr p) := by
  obtain ⟨els, xs, he, ho, hx, hb, _, _⟩ := h
  have he : some (List.map (rowCells (.one (.int .i64))) l) = some els := he
  have he := Option.some.inj he
  subst he
  have ho : w.ownsRow 0 3 1 (G.hv p) (List.map (rowCells (.one (.int .i64))) l).length xs := ho
  have e1 : (List.map (rowCells (.one (.int .i64))) l).length = l.length := List.length_map _
  rw [e1] at ho
  have e2 : xs = l.map (Value.int .i64) := by
    apply List.ext_getElem?
    intro i
    rw [List.getElem?_map]
    cases hi : l[i]? with
    | none =>
      have : l.length ≤ i := List.getElem?_eq_none_iff.mp hi
      exact List.getElem?_eq_none (by rw [ho.1]; omega)
    | some y =>
      obtain ⟨v, h1, h2⟩ := hx i 0 [⟨.int .i64, y⟩] ⟨.int .i64, y⟩ (els_map (rowCells (.one (.int .i64))) hi) rfl
      have h1 : xs[i * 1 + 0]? = some v := h1
      rw [Nat.mul_one, Nat.add_zero] at h1
      rw [h1, h2.int_inv]
      rfl
  subst e2
  rw [List.length_map]
  exact ⟨ho, hb⟩

theorem ownI_out {w : World} {G : Gh} {p : Nat} {l : List Int} (ho : w.ownsRow 0 3 1 (G.hv p) (l.map (Value.int .i64)).length (l.map (Value.int .i64))) (hb : ∀ g, (G.hv p).ownBlock = some g → G.L g = .arr p) (hs : G.esz p = 1) :
    OwnS w G p 3 ⟨.sl (.one (.int .i64)), l⟩ := by
  refine ⟨List.map (rowCells (.one (.int .i64))) l, l.map (Value.int .i64), rfl, ?_, fun i j L x hi hj => ?_, hb, hs, Nat.one_pos⟩
  · show w.ownsRow 0 3 1 (G.hv p) (List.map (rowCells (.one (.int .i64))) l).length _
    have e1 : (List.map (rowCells (.one (.int .i64))) l).length = l.length := List.length_map _
    rw [e1]
    rwa [List.length_map] at ho
  · obtain ⟨y, hy, rfl⟩ := map_els (α := Int) (rowCells (.one (.int .i64))) hi
    match j with
    | 0 =>
      cases hj
      refine ⟨.int .i64 y, ?_, .int _ _⟩
      show (l.map (Value.int .i64))[i * 1 + 0]? = _
      rw [Nat.mul_one, Nat.add_zero, List.getElem?_map, hy]; rfl
    | j + 1 => simp [rowCells] at hj

theorem int_one (l : List Int) : ∀ v ∈ l.map (Value.int .i64), v.oneCell' = true := by
  intro v hv
  obtain ⟨x, _, rfl⟩ := List.mem_map.mp hv
  rfl

theorem insI_some {e0 e1 : Nat} {l v y : List Int} {i : Int} (h : insI e0 e1 l i v = some y) : e0 = 3 ∧ e1 = 3 ∧ 0 ≤ i ∧ i.toNat ≤ l.length ∧ 0 < v.length ∧ l.length + v.length ≤ 17592186044416 ∧ y = l.take i.toNat ++ v ++ l.drop i.toNat := by
  unfold insI at h
  split at h
  · rename_i hc
    exact ⟨hc.1, hc.2.1, hc.2.2.1, hc.2.2.2.1, hc.2.2.2.2.1, hc.2.2.2.2.2, (Option.some.inj h).symm⟩
  · cases h

theorem insert_post {w : World} {G : Gh} {l v y : List Int} {i : Int} (sg : Sig) (hsg : sg.rs = [.c (.sl (.one (.int .i64))) (some 3)]) (hbs : sg.bs = []) (yT : sg.row.T) (hrow : rowCells sg.row yT = [⟨.sl (.one (.int .i64)), y⟩])
    (hE : Entry w G [G.hv 0, .int .i64 i, G.hv 128] [.own 3 (.sl (.one (.int .i64))) l, .cell (.int .i64) i false, .own 3 (.sl (.one (.int .i64))) v])
    (h0 : 0 ≤ i) (h1 : i.toNat ≤ l.length) (h2 : 0 < v.length) (h3 : l.length + v.length ≤ 17592186044416) (hy : y = l.take i.toNat ++ v ++ l.drop i.toNat) :
    Calls Try.prog 51 #[G.hv 0, .int .i64 i, G.hv 128] w fun e w' => ∃ u, e = .returned u ∧ Post sg [] w G yT u w' := by
  obtain ⟨u0, o0⟩ := hE.mem.lives 0 3 ⟨.sl (.one (.int .i64)), l⟩ rfl
  obtain ⟨u1, o1⟩ := hE.mem.lives 128 3 ⟨.sl (.one (.int .i64)), v⟩ rfl
  obtain ⟨r0, b0⟩ := ownI_in o0
  obtain ⟨r1, b1⟩ := ownI_in o1
  have hne : ∀ g, (G.hv 0).ownBlock = some g → (G.hv 128).ownBlock ≠ some g := fun g hg hg1 => by
    have := (b0 g hg).symm.trans (b1 g hg1)
    cases this
  have hi : i = (i.toNat : Int) := (Int.toNat_of_nonneg h0).symm
  have hcon := insert_calls w (G.hv 0) (G.hv 128) (l.map (Value.int .i64)) (v.map (Value.int .i64)) i.toNat r0 r1 hne (by rw [List.length_map]; exact h1) (by rw [List.length_map]; exact h2) (by rw [List.length_map, List.length_map]; omega) (int_one l) (int_one v)
  rw [← hi] at hcon
  refine hcon.mono ?_
  rintro e w' ⟨v', rfl, ho, hs, hb⟩
  rw [← List.map_take, ← List.map_drop, ← List.map_append, ← List.map_append, ← hy] at ho
  have fresh := hE.mem.fresh
  refine ⟨v', rfl, ⟨fun g => if v'.ownBlock = some g then .arr 0 else if (G.hv 0).ownBlock = some g then .free else G.L g, G.base, fun p => if p = 0 then v' else G.hv p, fun p => if p = 0 then 1 else G.esz p, G.used⟩, [v'], [0], [], [⟨.sl (.one (.int .i64)), y⟩], [], rfl, ?_, ?_, ?_, by simp, hs.mono fun g hg => ?_, fun g hg => ?_, fun g hg hn => ?_, fun r hr => by cases hr⟩
  · rw [hrow]; rfl
  · rw [hsg]
    refine .c _ _ [] _ [] v' [] [0] [] (.ow 3 _ 0 (ownI_out ?_ (fun g hg => ?_) ?_)) .nil
    · exact ho
    · have hg : v'.ownBlock = some g := hg
      show (if v'.ownBlock = some g then Lab.arr 0 else _) = _
      rw [if_pos hg]
    · rfl
  · rw [hbs]; exact .nil
  · rw [b0 g hg]; trivial
  · have hlt : ∀ g, v'.ownBlock = some g → g < w'.heap.size := fun g hg => by
      rcases ho.2 with ⟨rfl, _⟩ | ⟨k, c, cur, rfl, _, hb', _⟩
      · cases hg
      · cases hg; exact (Array.getElem?_eq_some_iff.1 hb').1
    show (if v'.ownBlock = some g then Lab.arr 0 else if (G.hv 0).ownBlock = some g then .free else G.L g) = .free
    rw [if_neg (fun e => by have := hlt g e; omega)]
    split
    · rfl
    · exact fresh g (Nat.le_trans hs.size hg)
  · show (if v'.ownBlock = some g then Lab.arr 0 else if (G.hv 0).ownBlock = some g then .free else G.L g) = G.L g
    have n0 : (G.hv 0).ownBlock ≠ some g := fun e => hn (by rw [b0 g e]; trivial)
    rw [if_neg (fun e => ?_), if_neg n0]
    rcases hb with hb | ⟨k, hk, hk2⟩
    · exact n0 (hb.symm.trans e)
    · rw [hk] at e; cases e; omega

theorem insert_ok (xs : List X) (y : (sig0 51).row.T) (h : ext_slices_Insert_int_int xs = some y) : FnOk Try.prog (sig0 51) 51 xs y := by
  unfold ext_slices_Insert_int_int at h
  split at h
  · rename_i e0 l i e1 v
    obtain ⟨rfl, rfl, h0, h1, h2, h3, h4⟩ := insI_some h
    refine ⟨fun args w => run_enter Try.func51 (by kernel_rfl) (Option.eq_some_of_isSome (by kernel_rfl)) args w, ?_⟩
    intro w vs G hE
    have hl := hE.len
    match vs, hl, hE with
    | [a, b, c], _, hE =>
      have k0 : RepV w G (.own 0) a := hE.tmps 0
      have k1 : RepV w G (.cell (.int .i64) i false) b := hE.tmps 1
      have k2 : RepV w G (.own 128) c := hE.tmps 2
      cases k0 with
      | own _ g0 =>
      cases k1 with
      | cell _ _ _ _ k1 =>
      cases k2 with
      | own _ g2 =>
      have k1 := k1.int_inv
      subst k1
      exact insert_post (y := y) _ rfl rfl y rfl hE h0 h1 h2 h3 h4
  · cases h

end Go.Proofs.Ytoifbdaaiejbnaa.D
/- What the book says of a function, the function does. -/
namespace Go.Proofs.Ytoifbdaaiejbnaa.D
open Go Go.RowKit

theorem mixed : Try.prog.follows .mixedOrders = true := by kernel_rfl
theorem names_ok : (Try.prog.funcs.toList.all fun fn => !(fn.name == "runtime.NumGoroutine")) = true := by kernel_rfl

theorem inp0_ok (f : Nat) (I : Inp) (h : inp0 f = some I) : InpOk Try.prog f I := by
  unfold inp0 at h
  cases hb : Nat.beq f 55 with
  | false => rw [hb] at h; cases h
  | true =>
    rw [hb] at h
    have e := Nat.eq_of_beq_eq_true hb
    subst e
    have h := Option.some.inj h
    subst h
    exact sortSpan_ok

theorem sound {k f : Nat} {xs : List X} {y : (B0.sig f).row.T} (h : B0.call k f xs = some y) : FnOk Try.prog (B0.sig f) f xs y := by
  refine book_sound B0 mixed ?_ ?_ (fun f I h => inp0_ok f I h) h
  · intro f fn c hf _
    have hf : Try.prog.funcs[f]? = some fn := hf
    have h2 := (List.all_eq_true.mp names_ok) fn (by rw [← Array.getElem?_toList] at hf; exact List.mem_of_getElem? hf)
    simpa using h2
  · intro f g xs y hx hy
    have hx : ext0 f = some g := hx
    unfold ext0 at hx
    split at hx
    · cases hx; exact insert_ok xs y hy
    · cases hx

end Go.Proofs.Ytoifbdaaiejbnaa.D
namespace Go.Proofs.Ytoifbdaaiejbnaa.D
open Go
theorem alive_true (k : Nat) : law08_alive.C (B0.call (k + 80)) = some true := by kernel_rfl
theorem Pat.Wf.lens : ∀ {p : Pat}, p.Wf → p.Lens := by
  intro p
  refine Pat.induct (motive := fun p => p.Wf → p.Lens) (fun p ih h => ?_) p
  cases h with
  | mk k s l hk hs hsl hl hll => exact .mk k s l (fun q hq => ih q hq (hl q hq)) (by unfold maxLen at hsl; omega) (by unfold maxLen at hll; omega)
theorem pat_opened {H : Type} {enc : TypeId × Value → H} {w : World} {base : Nat} {spare : Nat → Bool} {held : Bool} {cs : Array Value} {d : DataW H} {q : List MemPlace} (h : DataW.Trod enc Try.prog w base spare held 25 (.agg cs) d q) :
    ∃ p : Pat, cs.toList.length = 3 ∧ (∀ (j : Nat) c v, (Pat.cells p)[j]? = some c → cs.toList[j]? = some v → RepC w (Old w) c v) ∧ p.Wf := by
  obtain ⟨fuel, hf⟩ := h
  exact opens_pat Try.underlying25 (by kernel_rfl) rfl rfl rfl (by kernel_rfl) (by kernel_rfl) (by kernel_rfl) Try.underlying3 Try.underlying22 Try.underlying23 Try.underlying80 rfl rfl Try.underlying48 Try.underlying48 (by kernel_rfl) (by kernel_rfl) (by kernel_rfl) fuel _ _ (by simpa [Value.cells] using hf)
end Go.Proofs.Ytoifbdaaiejbnaa.D
namespace Go.Proofs.Ytoifbdaaiejbnaa.posStars
open Go.ChangeShapes Go.WideShapes Go.ChangeAt Go.RowKit Go.Proofs.Ytoifbdaaiejbnaa.D
theorem own : ownKnob Try.prog.godebug = none := by kernel_rfl
theorem laidOut : laidOutB Try.prog = true := by kernel_rfl
set_option maxRecDepth 100000 in
theorem lifted (os : Os) (started : os.Started) (H : Type) (enc : TypeId × Value → H) :
    ReturnsInHanded {} Try.checked os 4 .any (Rows.posStarsSpec.pre6 enc Try.prog Try.f4 Rows.posStarsRow.domain false) (Rows.posStarsSpec.post enc Try.prog Try.f4 false true false false) := by
  refine returnsInHanded_of_change_sized (C := Try.checked) own started (by kernel_rfl) Try.func4
    (ChangeSpec.witness6 (enc := enc) (C := Try.checked) false ⟨#[], #[.agg #[.int .i64 0, .slice none 0 0, .slice none 0 0]], []⟩ 8 (by kernel_rfl) (by kernel_rfl) (by kernel_rfl) (by kernel_rfl)) ?_
  intro W base args ds gs before hval0 hW hcnd hsz0 _
  have hval : ∀ (j : Nat) t v, Try.f4.params[j]? = some t → args[j]? = some v → Value.okWide Try.prog W .any base t v := hval0
  have hW' := hW
  obtain ⟨p, q, hA0, hV, rfl, hfz, hnd⟩ := hW
  have hA : DataW.TrodAll enc Try.prog W 0 (fun _ => true) true Try.f4.params.toList args.toList ds p := hA0
  rw [Try.params4] at hA hval
  obtain ⟨v0, vs0, d0, ds0, p0, q0, hargs, rfl, rfl, h0, r0⟩ := trodAll_cons hA
  obtain ⟨rfl, rfl, rfl⟩ := trodAll_nil r0
  obtain rfl : args = #[v0] := by cases args; simp_all
  obtain ⟨rfl, rfl⟩ := trodVars_none hV
  obtain ⟨cs0, rfl, hz0⟩ := okWide_struct Try.underlying25 (hval 0 25 v0 rfl rfl)
  have k0 := h0
  have lt0 : ∀ x ∈ p0, x.block < W.heap.size := by obtain ⟨m, hm⟩ := k0; exact DataW.trod_lt m _ _ _ hm
  obtain ⟨x0, hl0, hr0, hw0⟩ := pat_opened h0
  obtain ⟨cs0⟩ := cs0
  clear hA0 hval0 hsz0
  obtain ⟨k, hk⟩ : ∃ k : Nat, 4398046511104 + x0.parts < k + 80 := ⟨4398046511104 + x0.parts, by omega⟩
  have hc : B0.call (k + 80 + 1) 4 [.agg (Pat.cells x0)] = some true := law08_PosStars.spec x0 hw0.lens (k + 80) hk (alive_true k)
  have hok := sound hc
  have ha : ArgsOk W [.agg (Pat.cells x0)] [.agg ⟨cs0⟩] := .agg _ _ _ _ hl0 hr0 .nil
  refine (bool_call (b := true) hok ha rfl rfl rfl).mono fun e W' ⟨he, bel⟩ => ?_
  subst he
  exact ⟨_, rfl, _, _, _, [], _, [], hW', trodAll_mk1 (shut_bool Try.underlying4 _), (trodAll_cons_mk (Below.trod laidOut (by kernel_rfl) (of_decide_eq_true (by kernel_rfl)) k0 bel lt0) trodAll_mk0), rfl, bel.frame _, fun h => by cases h⟩
theorem over : Rows.posStarsRow.holds Try.pinned (OpenSpec.ofChange Rows.posStarsSpec) :=
  OpenClaim.holds_of_wide 4 Try.f4 rfl rfl rfl rfl rfl rfl rfl ⟨rfl, rfl, rfl, rfl, rfl⟩ rfl rfl rfl rfl rfl (by kernel_rfl) Try.func4 (by kernel_rfl)
    (of_decide_eq_true (by kernel_rfl)) (by unfold Func.isWrapper; first | (rw [if_pos (by decide +kernel)]; kernel_rfl) | (rw [if_neg (by decide +kernel)]; exact ⟨rfl, rfl⟩))
    (fun os started H enc _ => lifted os started H enc)
theorem proved : Rows.PosStarsSaid := over
end Go.Proofs.Ytoifbdaaiejbnaa.posStars
namespace Go.Proofs.Ytoifbdaaiejbnaa
/-- The row, under a short name, for the claim. -/
theorem posStars_holds : Rows.PosStarsSaid := posStars.proved
#print axioms posStars_holds
end Go.Proofs.Ytoifbdaaiejbnaa
